import Derived.Test.YtaemmjbkndlkeaaGreatMigrateOneFt
open List renaming drop_eq_nil_of_le->aN,drop_eq_getElem_cons->aO,foldl_cons->aP,getD->aV,getElem?_eq_none->aJ
open Array renaming getD_eq_getD_getElem?->aQ,foldl_toList->aS,getElem?_eq_getElem->aU,getD->aY,getElem?_setIfInBounds_ne->aZ
open Option renaming getD_some->aR,bind_some->aW,map_some->bA
open Bool renaming or_eq_true->aT,false_eq_true->aA,not_eq_true'->bB
open Nat renaming le_refl->aX,zero_le->bC
set_option linter.all false
namespace Go.GD
open Go
structure Chain(P:Program)(G:List ba)(N M:Nat)(ops:Array Oper)(s:Nat->St)(ks:Nat->List Nat)(val:Nat->D):Prop where
 op:∀(i:Nat) (o:Oper),ops[i]?=some o->nj P G M ops o (s i).env (s i).rows (ks i) (val i) (s (i+1)).rows
 env:∀(i:Nat) (o:Oper) (t:Nat),ops[i]?=some o->look (s (i+1)).env t=if o.dst=some t then val i else look (rL (ks i) (s i).env) t
 dst:∀(i:Nat) (o:Oper) (t:Nat),ops[i]?=some o->o.dst=some t->t<N
theorem Zpo{P:Program}{T:e7}(hT:jb P T){G:List ba}(hG:jr P G){N M:Nat}{ops:Array Oper}{K:St->Prop}:∀(l:List Oper) (k:Nat) (st:St),ops.toList.drop k=l->lI T G N M ops l st K->
 ∃ (s:Nat->St) (ks:Nat->List Nat) (val:Nat->D),s k=st/\K (s (k+l.length))/\(∀(i:Nat) (o:Oper),k<=i->ops[i]?=some o->nj P G M ops o (s i).env (s i).rows (ks i) (val i) (s (i+1)).rows)/\
  (∀(i:Nat) (o:Oper) (t:Nat),k<=i->ops[i]?=some o->look (s (i+1)).env t=if o.dst=some t then val i else look (rL (ks i) (s i).env) t)/\(∀(i:Nat) (o:Oper) (t:Nat),k<=i->ops[i]?=some o->o.dst=some t->t<N)
 |[],k,st,hk,h=>by
  have hlen:ops.size<=k:=by
   have:=congrArg List.length hk
   simp at this;omega
  have no:∀(i:Nat) (o:Oper),k<=i->ops[i]?=some o->False:=λi o hi ho=>by
   have:=(Array.getElem?_eq_some_iff.1 ho).1;omega
  exact⟨λ_=>st,λ_=>[],λ_=>.dead,rfl,h,λi o hi ho=>(no i o hi ho).elim,λi o t hi ho=>(no i o hi ho).elim,λi o t hi ho=>(no i o hi ho).elim⟩
 |o ::l,k,st,hk,h=>by
  have bg:k<ops.toList.length:=by
   by_cases bg:k<ops.toList.length
   ·exact bg
   ·rw[aN (by omega)]at hk;cases hk
  rw[aO bg]at hk
  have ho:ops[k]?=some o:=by
   have:=(List.cons.inj hk).1
   rw[<-this]
   simp at bg
   simp[bg]
  obtain⟨kk,v,R',iA,h1,h2,h3,h4⟩:=Vt hT hG h
  obtain⟨s,ks,val,g1,g2,g3,g4,g5⟩:=Zpo hT hG l (k+1) _ (List.cons.inj hk).2 h4
  refine⟨λi=>if i=k then st else s i,λi=>if i=k then kk else ks i,λi=>if i=k then v else val i,by simp,?_,λi p hi hp=>?_,λi p t hi hp=>?_,λi p t hi hp hd=>?_⟩
  ·simp only[List.length_cons]
   rw[if_neg (by omega),show k+(l.length+1)=k+1+l.length by omega]
   exact g2
  ·by_cases e:i=k
   ·subst e
    rw[ho]at hp;cases hp
    simp only[if_true,show¬i+1=i by omega,if_false,g1]
    exact h3
   ·simp only[if_neg e,if_neg (show¬i+1=k by omega)]
    exact g3 i p (by omega) hp
  ·by_cases e:i=k
   ·subst e
    rw[ho]at hp;cases hp
    simp only[if_true,show¬i+1=i by omega,if_false,g1]
    cases tC:o.dst with
    |none=>simp[rM,h1]
    |some u=>simp only[rM,Qc,Option.some.injEq,h1]
   ·simp only[if_neg e,if_neg (show¬i+1=k by omega)]
    exact g4 i p t (by omega) hp
  ·by_cases e:i=k
   ·subst e
    rw[ho]at hp;cases hp
    exact h2 t hd
   ·exact g5 i p t (by omega) hp hd
theorem Z5h(ops:Array Oper): ∀(l:List Oper) (acc:Array Nat),(∀k,acc.size<=k-> ∀i,(acc.getD k 0).testBit i=false)->
    ∀(ar:Nat->Prop),(∀(j:Nat) (hj:j<acc.size) (i:Nat),(∀o,ops[j]? =some o-> ∀e∈o.after,Region.binds .any e=true->ar e.on)->(acc.getD j 0).testBit i=true->ar i)->
    (∀j,ar j-> ∀o,ops[j]? =some o-> ∀e∈o.after,Region.binds .any e=true->ar e.on)->ops.toList.drop acc.size=l->
    ∀ (j i:Nat),(∀o,ops[j]? =some o-> ∀e∈o.after,Region.binds .any e=true->ar e.on)->
      ((l.foldl (λ(acc:Array Nat) o=>acc.push (o.after.foldl (λs e=>if Region.binds .any e then s|||2^e.on|||acc.getD e.on 0 else s) 0)) acc).getD j 0).testBit i=true->ar i
  | [],acc,hz,ar,DQ,jf,hl,j,i,hj,h=>by
    simp only[List.foldl_nil]at h
    by_cases bg:j<acc.size
    . exact DQ j bg i hj h
    . rw[hz j (by omega) i]at h;cases h
  | o :: l, acc,hz,ar,DQ,jf,hl,j,i,hj,h=>by
    simp only[aP]at h
    have bg:acc.size<ops.toList.length:=by
      by_cases bg:acc.size<ops.toList.length
      . exact bg
      . rw[aN (by omega)]at hl;cases hl
    rw[aO bg]at hl
    have ho:ops[acc.size]? =some o:=by
      rw[<-(List.cons.inj hl).1]
      simp at bg
      simp [bg]
    refine Z5h ops l _ (λk hk i=> ?_) ar (λk hk i uM hb=> ?_) jf (by simpa using(List.cons.inj hl).2) j i hj h
    . simp at hk
      rw[aQ,Array.getElem?_eq_none (by simp;omega)]
      simp
    . simp only [Array.size_push]at hk
      by_cases e:k=acc.size
      . subst e
        rw[aQ,Array.getElem?_push_size,aR]at hb
        have iJ:=uM o ho
        rw[<-aS]at hb
        have fold: ∀(es:List Edge) (s0:Nat),(∀e∈es,Region.binds .any e=true->ar e.on)->(s0.testBit i=true->ar i)->(es.foldl (λs e=>if Region.binds .any e then s|||2^e.on|||acc.getD e.on 0 else s) s0).testBit i=true->ar i:=by
          intro es
          induction es with
          |nil=>intro s0 _ h0 hb;exact h0 hb
          | cons e es ih=>
            intro s0 he h0 hb
            simp only[aP]at hb
            refine ih _ (λe' wJ=>he e' (by simp [wJ])) (λhs=> ?_) hb
            split at hs
            . rename_i Mw
              have hle:=he e (by simp) Mw
              simp only[Nat.testBit_or,aT,Nat.testBit_two_pow,decide_eq_true_eq]at hs
              rcases hs with(hs|hs)|hs
              . exact h0 hs
              . rw[<-hs];exact hle
              . by_cases bg:e.on<acc.size
                . exact DQ e.on bg i (jf e.on hle) hs
                . rw[hz e.on (by omega) i]at hs;cases hs
            . exact h0 hs
        exact fold o.after.toList 0 (λe he hb=>iJ e (by simpa using he) hb) (by simp) hb
      . have mz:k<acc.size:=by omega
        rw[aQ,Array.getElem?_push_lt mz,<-aU mz,<-aQ]at hb
        exact DQ k mz i uM hb
theorem RP{ops:Array Oper}{ar:Nat->Prop}(jf:∀j,ar j->∀o,ops[j]?=some o->∀e∈o.after,Region.binds .any e=true->ar e.on){j i:Nat}
 (hj:∀o,ops[j]?=some o->∀e∈o.after,Region.binds .any e=true->ar e.on) (h:((Region.before ops).getD j 0).testBit i=true):ar i:=by
 refine Z5h ops ops.toList #[] (λk _ i=>by simp) ar (λj hj=>by simp at hj) jf (by simp) j i hj ?_
 have:Region.before ops=ops.toList.foldl (λ(acc:Array Nat) o=>acc.push (o.after.foldl (λs e=>if Region.binds .any e then s|||2^e.on|||acc.getD e.on 0 else s) 0)) #[]:=by
  unfold Region.before
  rw[<-aS]
 rw[<-this];exact h
theorem Mx{G:List ba}{ops:Array Oper}(h:Hu G ops=true){i j:Nat}{x y:Oper}(JI:i<j)(hx:ops[i]?=some x)(hy:ops[j]?=some y):
 (x.apart ops y=true\/((Region.before ops).getD j 0).testBit i=true)/\((kN G x.op=true/\kN G y.op=true)\/((Region.before ops).getD j 0).testBit i=true):=by
 have hj:=(Array.getElem?_eq_some_iff.1 hy).1
 have h1:=List.all_eq_true.1 h j (List.mem_range.2 hj)
 simp only[aE]at h1
 have h2:=List.all_eq_true.1 h1.2 i (List.mem_range.2 JI)
 unfold Bf at h2
 simp only[hx,hy,aE,aT]at h2
 exact h2
theorem Zmd{G:List ba}{ops:Array Oper}(h:Hu G ops=true){j:Nat}{y:Oper}(hy:ops[j]?=some y):∀e∈y.after,Region.binds .any e=true->e.on<j:=by
 have hj:=(Array.getElem?_eq_some_iff.1 hy).1
 have h1:=List.all_eq_true.1 h j (List.mem_range.2 hj)
 simp only[aE,hy]at h1
 intro e he hb
 have:=Array.all_eq_true'.1 h1.1 e he
 simp only[hb,Bool.not_true,Bool.false_or]at this
 exact lE this
theorem Vu{G:List ba}{o:Op}(h:kN G o=true):rO G o=false:=by
 simpa[kN]using h
theorem Vv{P:Program}{G:List ba}{M:Nat}{ops:Array Oper}{o:Oper}{env:List (Nat×D)}{R:Rows}{ks:List Nat}{v:D}{R':Rows}(h:nj P G M ops o env R ks v R')(hq:kN G o.op=true):ks=[]/\∃news,R'=R++news:=by
 have one:pr P G M o (cj env) R ks v R'->ks=[]/\∃news,R'=R++news:=λh=>by
  unfold pr at h
  rw[Vu hq]at h
  exact⟨h.1,h.2.1⟩
 unfold nj at h
 split at h
 ·exact one h
 ·obtain⟨g,_,⟨b,_,h⟩|⟨_,h⟩⟩:=h
  ·split at h
   ·exact one h
   ·exact⟨h.1,[],by rw[h.2.2];simp⟩
  ·exact⟨h.1,[],by rw[h.2.2];simp⟩
def iX(ops:Array Oper)(s:Nat->St)(val:Nat->D)(du:Nat->Bool)(c:Nat):Nat->Nat->D
 |0,t=>look (s c).env t
 |n+1,t=>if du (c+n)=true/\(ops[c+n]?).bind (·.dst)=some t then val (c+n)else iX ops s val du c n t
def ki(s:Nat->St)(du:Nat->Bool)(c:Nat):Nat->Nat->Option Row
 |0,r=>(s c).rows.getD r none
 |n+1,r=>if du (c+n)=true/\(s (c+n)).rows.length<=r/\r<(s (c+n+1)).rows.length then(s (c+n+1)).rows.getD r none else ki s du c n r
theorem Chain.DR{P:Program}{G:List ba}{N M:Nat}{ops:Array Oper}{s:Nat->St}{ks:Nat->List Nat}{val:Nat->D}(hc:Chain P G N M ops s ks val){i:Nat}{o:Oper}(ho:ops[i]?=some o)(hq:kN G o.op=true)(t:Nat):look (s (i+1)).env t=if o.dst=some t then val i else look (s i).env t:=by
 rw[hc.env i o t ho,(Vv (hc.op i o ho) hq).1,ow]
theorem JL.toW{c c':Ctx}{w w':World}{R R':Rows}(hs:JL c w R R' c' w'):lu c w c' w':=
 ⟨hs.mem,hs.cy,hs.fr.mono (λb _ hf=>hf.elim),hs.ff,λr ao pw hv=>by
  by_cases h1:R.length<=r/\r<R'.length
  ·exact .inr (hs.new r h1.1 h1.2 hv)
  ·rw[hs.rows,if_neg h1]at pw
   obtain⟨h2,h3⟩:=hs.jv r (by omega)
   exact .inl ⟨⟨_,pw⟩,λe=>hv (h3.2 e),h2⟩⟩
theorem Qpa{R news:Rows}{r:Nat}(h:r<R.length):(R++news).getD r none=R.getD r none:=by
 simp[aV,List.getElem?_append_left h]
section
variable {P:Program} {G:List ba} {N M:Nat} {ops:Array Oper} {s:Nat->St} {ks:Nat->List Nat} {val:Nat->D} (hc:Chain P G N M ops s ks val) (lJ:Hu G ops=true)
include hc
theorem Z48{c d:Nat}(hq:∀(i:Nat) (o:Oper),c<=i->i<d->ops[i]?=some o->kN G o.op=true)(hd:d<=ops.size){k:Nat}(hk:c<=k):∀{l:Nat},k<=l->l<=d->∃news,(s l).rows=(s k).rows++news:=by
 intro l hl
 induction l with
 |zero=>intro _;exact⟨[],by rw[show k=0 by omega];simp⟩
 |succ l ih=>
  intro Dc
  by_cases e:k=l+1
  ·exact⟨[],by rw[e];simp⟩
  ·obtain⟨n1,h1⟩:=ih (by omega) (by omega)
   have ho:ops[l]?=some ops[l]:=aU (by omega)
   obtain⟨_,n2,h2⟩:=Vv (hc.op l _ ho) (hq l _ (by omega) (by omega) ho)
   exact⟨n1++n2,by rw[h2,h1,List.append_assoc]⟩
theorem JM{c d:Nat}(hq:∀(i:Nat) (o:Oper),c<=i->i<d->ops[i]?=some o->kN G o.op=true)(hd:d<=ops.size){k l:Nat}(hk:c<=k)(hl:k<=l)(Dc:l<=d):(s k).rows.length<=(s l).rows.length:=by
 obtain⟨n,h⟩:=Z48 hc hq hd hk hl Dc
 rw[h];simp
theorem JN{c d:Nat}(hq:∀(i:Nat) (o:Oper),c<=i->i<d->ops[i]?=some o->kN G o.op=true)(hd:d<=ops.size){k l:Nat}(hk:c<=k)(hl:k<=l)(Dc:l<=d){r:Nat}(hr:r<(s k).rows.length):(s l).rows.getD r none=(s k).rows.getD r none:=by
 obtain⟨n,h⟩:=Z48 hc hq hd hk hl Dc
 rw[h,Qpa hr]
theorem RQ{du:Nat->Bool}{c d:Nat}(hq:∀(i:Nat) (o:Oper),c<=i->i<d->ops[i]?=some o->kN G o.op=true)(hd:d<=ops.size):∀{n:Nat},c+n<=d->(∀i,i<n->du (c+i)=true)->∀t,iX ops s val du c n t=look (s (c+n)).env t
 |0,_,_,t=>rfl
 |n+1,hn,hl,t=>by
  have ho:ops[c+n]?=some ops[c+n]:=aU (by omega)
  simp only[iX,hl n (by omega),true_and,ho,aW]
  rw[show c+(n+1)=(c+n)+1 by omega,hc.DR ho (hq _ _ (by omega) (by omega) ho) t]
  split
  ·rfl
  ·exact RQ hq hd (by omega) (λi hi=>hl i (by omega)) t
theorem RR{du:Nat->Bool}{c d:Nat}(hq:∀(i:Nat) (o:Oper),c<=i->i<d->ops[i]?=some o->kN G o.op=true)(hd:d<=ops.size):∀{n:Nat},c+n<=d->(∀i,i<n->du (c+i)=true)->∀r,ki s du c n r=(s (c+n)).rows.getD r none
 |0,_,_,r=>rfl
 |n + 1,hn,hl,r=>by
  simp only[ki,hl n (by omega),true_and]
  rw[show c+(n+1)=c+n+1 by omega]
  split
  ·rfl
  ·rename_i h1
   rw[RR hq hd (by omega) (λi hi=>hl i (by omega)) r]
   by_cases h2:r<(s (c+n)).rows.length
   ·exact(JN hc hq hd (by omega) (by omega) (by omega) h2).symm
   ·have hlen:=JM hc hq hd (show c<=c+n by omega) (show c+n<=c+n+1 by omega) (by omega)
    simp only[aV]
    rw[aJ (by omega),aJ (by omega)]
end
theorem RS{ops:Array Oper}{s:Nat->St}{val:Nat->D}{du:Nat->Bool}{c:Nat}:∀{n:Nat},(∀i,i<n->du (c+i)=false)->∀t,iX ops s val du c n t=look (s c).env t
 |0,_,t=>rfl
 |n+1,hl,t=>by
  simp only[iX,hl n (by omega),aA,false_and,if_false]
  exact RS (λi hi=>hl i (by omega)) t
theorem RU{s:Nat->St}{du:Nat->Bool}{c:Nat}:∀{n:Nat},(∀i,i<n->du (c+i)=false)->∀r,ki s du c n r=(s c).rows.getD r none
 |0,_,r=>rfl
 |n+1,hl,r=>by
  simp only[ki,hl n (by omega),aA,false_and,if_false]
  exact RU (λi hi=>hl i (by omega)) r
theorem RV{ops:Array Oper}{s:Nat->St}{val:Nat->D}{du ga:Nat->Bool}{c:Nat}:∀{n:Nat},(∀i,i<n->ga (c+i)=du (c+i))->∀t,iX ops s val ga c n t=iX ops s val du c n t
 |0,_,t=>rfl
 |n+1,hl,t=>by simp only[iX,hl n (by omega),RV (n:=n) (λi hi=>hl i (by omega)) t]
theorem RW{s:Nat->St}{du ga:Nat->Bool}{c:Nat}:∀{n:Nat},(∀i,i<n->ga (c+i)=du (c+i))->∀r,ki s ga c n r=ki s du c n r
 |0,_,r=>rfl
 |n+1,hl,r=>by simp only[ki,hl n (by omega),RW (n:=n) (λi hi=>hl i (by omega)) r]
theorem Vw{ops:Array Oper}{s:Nat->St}{val:Nat->D}{du ga:Nat->Bool}{c i:Nat}{o:Oper}(ho:ops[i]? =some o)(px:c<=i)(h0:du i=false)(h1:ga i=true)(h2: ∀k,k≠i->ga k=du k){t:Nat}
    (rP: ∀k o',i<k->du k=true->ops[k]? =some o'->o'.dst=some t->o.dst=some t->False): ∀{n:Nat},i<c+n->iX ops s val ga c n t=if o.dst=some t then val i else iX ops s val du c n t
  |0,h=>by omega
  | n + 1,h=>by
    by_cases e:i=c+n
    . simp only[iX,<-e,h0,h1,ho,aW,true_and,aA,false_and,if_false]
      split
      . rfl
      . exact RV (λk hk=>h2 _ (by omega)) t
    . simp only[iX,h2 (c+n) (λe'=>e e'.symm)]
      rw[Vw ho px h0 h1 h2 rP (n:=n) (by omega)]
      by_cases g:du (c+n)=true/\(ops[c+n]?).bind (·.dst)=some t
      . by_cases hd:o.dst=some t
        . exfalso
          obtain⟨g1,g2⟩:=g
          cases hk:ops[c+n]? with
          |none=>rw[hk]at g2;cases g2
          | some o'=>
            rw[hk]at g2
            exact rP (c+n) o' (by omega) g1 hk g2 hd
        . rw[if_pos g,if_neg hd,if_pos g]
      . rw[if_neg g,if_neg g]
theorem Vx{s:Nat->St}{du ga:Nat->Bool}{c i:Nat}(px:c<=i)(h0:du i=false)(h1:ga i=true)(h2:∀k,k≠i->ga k=du k){r d:Nat}
 (hlen:∀k,i<k->k<d->(s (i+1)).rows.length<=(s k).rows.length):∀{n:Nat},i<c+n->c+n<=d->ki s ga c n r=if(s i).rows.length<=r/\r<(s (i+1)).rows.length then(s (i+1)).rows.getD r none else ki s du c n r
 |0,h,_=>by omega
 |n +1,h,hn=>by
  by_cases e:i=c+n
  ·simp only[ki,<-e,h0,h1,true_and,aA,false_and,if_false]
   split
   ·rfl
   ·exact RW (λk hk=>h2 _ (by omega)) r
  ·simp only[ki,h2 (c+n) (λe'=>e e'.symm)]
   rw[Vx px h0 h1 h2 hlen (n:=n) (by omega) (by omega)]
   have:=hlen (c+n) (by omega) (by omega)
   by_cases g:du (c+n)=true/\(s (c+n)).rows.length<=r/\r<(s (c+n+1)).rows.length
   ·rw[if_pos g,if_neg (by omega),if_pos g]
   ·rw[if_neg g,if_neg g]
theorem FE{ops:Array Oper}{x y:Oper}(h:x.apart ops y=true){t:Nat}:(x.dst=some t->y.dst≠some t)/\(x.dst=some t->t∉y.looksAt ops)/\(y.dst=some t->t∉x.looksAt ops):=by
 obtain⟨h1,h2,h3⟩:=Oper.apart_spec h
 exact⟨λe=>h2 t e,λe=>h1 t e,λe=>h3 t e⟩
structure Inv(P:Program)(G:List ba)(N M:Nat)(ops:Array Oper)(s:Nat->St)(val:Nat->D)(c0:Ctx)(w0:World)(du:Nat->Bool)(a:Act)(w:World)(c d:Nat):Prop where
 cd:c<=d
 dn:d<=ops.size
 pre:∀i,i<c->du i=true
 post:∀i,d<=i->du i=false
 quiet:∀(i:Nat) (o:Oper),c<=i->i<d->ops[i]?=some o->kN G o.op=true
 wr:∀(o:Oper),ops[d]?=some o->kN G o.op=false
 closed:∀j,du j=true->∀(o:Oper),ops[j]?=some o->∀e∈o.after,Region.binds .any e=true->du e.on=true
 size:N<=a.tmps.size
 defers:lK w0.heap.size w a.defers
 fw:c0.base<=w0.heap.size
 gp:∀r row,c0.R r=some row->r<M
 ctx:∃cx,Mem cx w/\(∀r,cx.R r=ki s du c (d-c) r)/\(∀t,Rep cx w (iX ops s val du c (d-c) t) (a.tmps.getD t undef))/\wK c0 w0 cx w
theorem My(G:List ba)(ops:Array Oper):∀(n c:Nat),ops.size-c=n->c<=ops.size->∃d,c<=d/\d<=ops.size/\(∀(i:Nat) (o:Oper),c<=i->i<d->ops[i]?=some o->kN G o.op=true)/\(∀(o:Oper),ops[d]?=some o->kN G o.op=false)
 |0,c,h,hc=>⟨c,aX _,hc,λi o h1 h2=>by omega,λo ho=>by
  have:=(Array.getElem?_eq_some_iff.1 ho).1;omega⟩
 |n +1,c,h,hc=>by
  have ho:ops[c]?=some ops[c]:=aU (by omega)
  cases hq:kN G ops[c].op with
  |false=>exact⟨c,aX _,hc,λi o h1 h2=>by omega,λo h'=>by rw[ho]at h';cases h';exact hq⟩
  |true=>
   obtain⟨d,h1,h2,h3,h4⟩:=My G ops n (c+1) (by omega) (by omega)
   refine⟨d,by omega,h2,λi o hi hid h'=>?_,h4⟩
   by_cases e:i=c
   ·subst e;rw[ho]at h';cases h';exact hq
   ·exact h3 i o (by omega) hid h'
section
variable {P:Program} {G:List ba} {N M:Nat} {ops:Array Oper} {s:Nat->St} {ks:Nat->List Nat} {val:Nat->D} (hc:Chain P G N M ops s ks val) (lJ:Hu G ops=true)
include hc lJ
theorem yF{c0:Ctx}{w0:World}{du ga:Nat->Bool}{a:Act}{w:World}{c d i:Nat}{o:Oper}(hI:Inv P G N M ops s val c0 w0 du a w c d)(ho:ops[i]?=some o)(h0:du i=false)(h1:ga i=true)(h2:∀k,k≠i->ga k=du k)
 (Mz:∀e∈o.after,Region.binds .any e=true->du e.on=true) {K:Act->World->Prop} {Q:Exit->Act->World->Prop} (hK:∀a' w' c' d',Inv P G N M ops s val c0 w0 ga a' w' c' d'->K a' w'):wpOp P ops Q i K a w:=by
 have bg:=(Array.getElem?_eq_some_iff.1 ho).1
 have pN:∀k,((Region.before ops).getD i 0).testBit k=true->du k=true:=λk hk=>
  RP (ar:=λk=>du k=true) hI.closed (λo' jg=>by rw[ho]at jg;cases jg;exact Mz) hk
 have nO:∀j k,du j=true->((Region.before ops).getD j 0).testBit k=true->du k=true:=λj k hj hk=>
  RP (ar:=λk=>du k=true) hI.closed (hI.closed j hj) hk
 have px:c<=i:=by
  by_cases h:c<=i
  ·exact h
  ·rw[hI.pre i (by omega)]at h0;cases h0
 have tD:∀j,ga j=true->∀(o:Oper),ops[j]?=some o->∀e∈o.after,Region.binds .any e=true->ga e.on=true:=by
  intro j hj o' jg e he hb
  have gm:du e.on=true:=by
   by_cases e':j=i
   ·subst e';rw[ho]at jg;cases jg;exact Mz e he hb
   ·rw[h2 j e']at hj;exact hI.closed j hj o' jg e he hb
  rw[h2 e.on (λe'=>by rw[e',h0]at gm;cases gm)]
  exact gm
 have hid:i<=d:=by
  by_cases h:i<=d
  ·exact h
  ·exfalso
   have Bg:ops[d]?=some ops[d]:=aU (by omega)
   have:=(Mx lJ (show d<i by omega) Bg ho).2
   rcases this with⟨hq,_⟩|hb
   ·rw[hI.wr _ Bg]at hq;cases hq
   ·have:=pN d hb
    rw[hI.post d (aX _)]at this;cases this
 obtain⟨cx,hm,hR,hE,nP⟩:=hI.ctx
 by_cases e:i=d
 ·
  subst e
  have iJ:∀k,k<i-c->du (c+k)=true:=λk hk=>by
   have dy:ops[c+k]?=some ops[c+k]:=aU (by omega)
   have:=(Mx lJ (show c+k<i by omega) dy ho).2
   rcases this with⟨_,hq⟩|hb
   ·rw[hI.wr _ ho]at hq;cases hq
   ·exact pN _ hb
  have hs:fg N M c0 w0 cx w (s i) a:=by
   refine⟨hm,λr=>?_,λt=>?_,hI.size,hI.defers,hI.fw,hI.gp,nP⟩
   ·rw[hR,RR hc hI.quiet hI.dn (by omega) iJ]
    rw[show c+(i-c)=i by omega]
   ·have:=hE t
    rw[RQ hc hI.quiet hI.dn (by omega) iJ]at this
    rwa [show c+(i-c)=i by omega]at this
  refine vX ho hs (λ_=>rfl) (λt=>hc.dst i o t ho) (hc.op i o ho) λa' w' c' iP=>?_
  obtain⟨d',g1,g2,g3,g4⟩:=My G ops _ (i+1) rfl (by omega)
  have rP:∀k,k<d'-(i+1)->ga (i+1+k)=false:=λk hk=>by
   rw[h2 _ (by omega)];exact hI.post _ (by omega)
  refine hK a' w' (i+1) d' ⟨g1,g2,λk hk=>?_,λk hk=>?_,g3,g4,tD,iP.size,iP.defers,iP.fw,iP.gp,c',iP.mem,λr=>?_,λt=>?_,iP.reach⟩
  ·by_cases e':k=i
   ·rw[e'];exact h1
   ·rw[h2 k e']
    by_cases Vy:k<c
    ·exact hI.pre k Vy
    ·have:=iJ (k-c) (by omega)
     rwa [show c+(k-c)=k by omega]at this
  ·rw[h2 k (by omega)];exact hI.post k (by omega)
  ·rw[RU rP];exact iP.rows r
  ·rw[RS rP,hc.env i o t ho]
   have:=iP.env t
   cases hd:o.dst with
   |none=>simpa[rM,hd]using this
   |some u=>simpa only[rM,hd,Qc,Option.some.injEq]using this
 ·
  have Hv:i<d:=by omega
  have hq:=hI.quiet i o px Hv ho
  have MA:=Vu hq
  have Hw :∀t∈o.looksAt ops,∀n,c+n<=d->iX ops s val du c n t=if c+n<=i then look (s (c+n)).env t else look (s i).env t:=by
   intro t ht n
   induction n with
   |zero=>intro _;simp only[iX,Nat.add_zero];rw[if_pos px]
   |succ n ih=>
    intro hn
    have Hx:=hI.dn
    obtain⟨ok,dy⟩:∃ok,ops[c+n]?=some ok:=⟨_,aU (show c+n<ops.size by omega)⟩
    have ih:=ih (by omega)
    simp only[iX,dy,aW]
    by_cases hk:c+n<i
    ·have hA:c+(n+1)<=i:=by omega
     have RX:c+n<=i:=by omega
     rw[if_pos hA,show c+(n+1)=c+n+1 by omega,hc.DR dy (hI.quiet _ _ (by omega) (by omega) dy) t]
     rw[if_pos RX]at ih
     by_cases hd:ok.dst=some t
     ·have hl:du (c+n)=true:=by
       rcases(Mx lJ hk dy ho).1 with tE|hb
       ·exact((FE tE).2.1 hd ht).elim
       ·exact pN _ hb
      rw[if_pos ⟨hl,hd⟩,if_pos hd]
     ·rw[if_neg (λg=>hd g.2),if_neg hd,ih]
    ·have Hy:¬(du (c+n)=true/\ok.dst=some t):=by
      rintro⟨g1,g2⟩
      by_cases e':c+n=i
      ·rw[e',h0]at g1;cases g1
      ·have nQ:i<c+n:=by omega
       rcases(Mx lJ nQ ho dy).1 with tE|hb
       ·exact(FE tE).2.2 g2 ht
       ·have:=nO _ _ g1 hb
        rw[h0]at this;cases this
     have hA:¬c+(n+1)<=i:=by omega
     rw[if_neg Hy,ih,if_neg hA]
     split
     ·rw[show c+n=i by omega]
     ·rfl
  have MB:∀t∈o.looksAt ops,Rep cx w (look (s i).env t) (a.tmps.getD t undef):=λt ht=>by
   have:=hE t
   rw[Hw t ht (d-c) (by omega),if_neg (by omega)]at this
   exact this
  have hlen:∀k l,c<=k->k<=l->l<=d->(s k).rows.length<=(s l).rows.length:=λk l h1 h2 h3=>JM hc hI.quiet hI.dn h1 h2 h3
  have iu:∀k l,c<=k->k<=l->l<=d->∀r,r<(s k).rows.length->(s l).rows.getD r none=(s k).rows.getD r none:=λk l h1 h2 h3 r hr=>JN hc hI.quiet hI.dn h1 h2 h3 hr
  have Bh:∀n,c+n<=d->∀r,r<(s i).rows.length->∀row,ki s du c n r=some row->(s i).rows.getD r none=some row:=by
   intro n
   induction n with
   |zero=>
    intro _ r hr row h
    simp only[ki]at h
    by_cases Vz:r<(s c).rows.length
    ·rw[iu c i (aX _) px (by omega) r Vz];exact h
    ·simp only[aV,aJ (show(s c).rows.length<=r by omega)]at h;cases h
   |succ n ih=>
    intro hn r hr row h
    simp only[ki]at h
    split at h
    ·rename_i g
     obtain⟨g1,g2,g3⟩:=g
     have VA:c+n<i:=by
      by_cases mz:c+n<i
      ·exact mz
      ·by_cases e':c+n=i
       ·rw[e',h0]at g1;cases g1
       ·have:=hlen i (c+n) px (by omega) (by omega);omega
     rw[iu (c+n+1) i (by omega) (by omega) (by omega) r g3];exact h
    ·exact ih (by omega) r hr row h
  have Bi:∀n,c+n<=d->∀r,(s i).rows.length<=r->r<(s (i+1)).rows.length->ki s du c n r=none:=by
   intro n
   induction n with
   |zero=>
    intro _ r h1 h2
    have:=hlen c i (aX _) px (by omega)
    simp only[ki,aV,aJ (show(s c).rows.length<=r by omega),Option.getD_none]
   |succ n ih=>
    intro hn r h1 h2
    simp only[ki]
    rw[if_neg]
    ·exact ih (by omega) r h1 h2
    ·rintro⟨g1,g2,g3⟩
     by_cases e':c+n=i
     ·rw[e',h0]at g1;cases g1
     ·by_cases mz:c+n<i
      ·have:=hlen (c+n+1) i (by omega) (by omega) (by omega);omega
      ·have:=hlen (i+1) (c+n) (by omega) (by omega) (by omega);omega
  have jc:cx.base<=w.heap.size:=by rw[nP.cy.base];exact Nat.le_trans hI.fw nP.fr.size
  have oK:lR cx (s i).rows:=λr row ao g1 g2=>by
   have hr:r<(s i).rows.length:=by
    by_cases h:r<(s i).rows.length
    ·exact h
    ·simp only[aV,aJ (show(s i).rows.length<=r by omega)]at g2;cases g2
   rw[hR]at g1
   have:=Bh (d-c) (by omega) r hr row g1
   rw[this]at g2;exact Option.some.inj g2
  have fin:∀v w' c',JL cx w (s i).rows (s (i+1)).rows c' w'->Rep c' w' (val i) v->K (a.put o.dst v) w':=by
   intro v w' c' hn hv
   refine hK _ w' c d ⟨hI.cd,hI.dn,λk hk=>by rw[h2 k (by omega)];exact hI.pre k hk,λk hk=>by rw[h2 k (by omega)];exact hI.post k hk,hI.quiet,hI.wr,tD,?_,?_,hI.fw,hI.gp,c',hn.mem,λr=>?_,λt=>?_,nP.step (ks:=[]) (λk hk=>by simp[cv]at hk) hI.gp hn.toW.toK⟩
   ·cases hd:o.dst<;>simp[Act.put]<;>exact hI.size
   ·first|exact lK.put (hI.defers.step hm hn.fr)|exact lK.put (hI.defers.step hm hn.toW.fr)
   ·rw[hn.rows,hR,Vx px h0 h1 h2 (d:=d) (λk mQ ri=>hlen (i+1) k (by omega) (by omega) (by omega)) (by omega) (by omega)]
   ·have hl:∀k o',i<k->du k=true->ops[k]?=some o'->o'.dst=some t->o.dst=some t->False:=by
     intro k o' nQ hk dy Mr VB
     rcases(Mx lJ nQ ho dy).1 with tE|hb
     ·exact(FE tE).1 VB Mr
     ·have:=nO _ _ hk hb
      rw[h0]at this;cases this
    rw[Vw ho px h0 h1 h2 hl (by omega)]
    have hold:=wM hn.cy (hE t)
    cases hd:o.dst with
    |none=>simpa[Act.put,hd]using hold
    |some u=>
     have hu:=hc.dst i o u ho hd
     simp only[Act.put,Option.some.injEq]
     by_cases e':u=t
     ·subst e'
      have mz:u<a.tmps.size:=Nat.lt_of_lt_of_le hu hI.size
      rw[if_pos rfl]
      simpa[aY,mz]using hv
     ·rw[if_neg e']
      simpa[aZ e']using hold
  have skip:val i=.dw []->(s (i+1)).rows=(s i).rows->K (a.put o.dst undef) w:=λe1 e2=>
   fin undef w cx ⟨hm,iW.refl _ _,Fr.refl _ _,λb hb=>.inl hb,λr=>by rw[e2,if_neg (by omega)],λ_ _=>⟨rfl,Iff.rfl⟩,λr g1 g2=>by rw[e2]at g2;omega⟩ (by rw[e1];exact RY _ _)
  have run:pr P G M o (cj (s i).env) (s i).rows (ks i) (val i) (s (i+1)).rows->o.mU P a w K Q:=λhX=>by
   unfold pr at hX
   rw[MA]at hX
   refine hX.2.2 cx w a hm jc oK (λr g1 g2=>by rw[hR];exact Bi (d-c) (by omega) r g1 g2) (λx hx=>?_) K Q fin
   cases x with
   |tmp t=>
    refine MB t ?_
    unfold Oper.looksAt
    exact List.mem_append_left _ (List.mem_filterMap.2 ⟨.tmp t,by simpa using hx,rfl⟩)
   |const v=>
    simp only[cj,Act.eval]
    cases hv:FG v with
    |none=>trivial
    |some d=>exact MC hv cx w
   |global g=>trivial
   |func f=>exact JO f
  have hG:=hc.op i o ho
  unfold wpOp
  simp only[ho]
  unfold nj at hG
  cases hg:o.guard with
  |none=>
   simp only[hg]at hG
   have hw:Region.wanted o (yielded ops a.tmps)=true:=by simp[Region.wanted,hg]
   rw[if_pos hw]
   exact run hG
  |some jw=>
   obtain⟨j,want⟩:=jw
   simp only[hg]at hG
   obtain⟨g,g2,hG⟩:=hG
   have hr:=MB g (by
    unfold Oper.looksAt
    refine List.mem_append_right _ ?_
    simp only[hg,g2];simp)
   rcases hG with⟨b,g3,g4⟩|⟨g3,_,e1,e2⟩
   rotate_left
   ·rw[g3]at hr
    rw[if_neg (by rw[RZ (o:=o) hg g2 hr];simp)]
    exact skip e1 e2
   rw[g3]at hr
   have hw:=R3 (o:=o) hg g2 hr
   by_cases e':b=want
   ·rw[if_pos e']at g4
    rw[if_pos (by rw[hw];simpa using e')]
    exact run g4
   ·rw[if_neg e']at g4
    rw[if_neg (by rw[hw];simpa using e')]
    exact skip g4.2.1 g4.2.2
end
def mA(du:Nat->Bool):Nat->Nat
 |0=>0
 |n+1=>(if du n=true then 0 else 1)+mA du n
theorem VC(du:Nat->Bool):∀n,mA du n<=n
 |0=>aX _
 |n+1=>by have:=VC du n;simp only[mA];split<;>omega
theorem VD{du:Nat->Bool}:∀{n:Nat},mA du n=0->∀i,i<n->du i=true
 |n +1,h,i,hi=>by
  simp only[mA]at h
  by_cases e:i=n
  ·subst e
   cases hl:du i with
   |true=>rfl
   |false=>rw[hl]at h;simp at h
  ·exact VD (n:=n) (by omega) i (by omega)
theorem Zp6{du ga:Nat->Bool}:∀{n:Nat},(∀i,i<n->ga i=du i)->mA ga n=mA du n
 |0,_=>rfl
 |n+1,h=>by simp only[mA,h n (by omega),Zp6 (n:=n) (λi hi=>h i (by omega))]
theorem VE{du ga:Nat->Bool}{i:Nat}(h0:du i=false)(h1:ga i=true)(h2:∀k,k≠i->ga k=du k):∀{n:Nat},i<n->mA ga n+1=mA du n
 |n +1,h=>by
  simp only[mA]
  by_cases e:i=n
  ·subst e
   rw[Zp6 (du:=du) (ga:=ga) (λk hk=>h2 k (by omega)),h0,h1]
   simp;omega
  ·rw[h2 n (λe'=>e e'.symm)]
   have:=VE h0 h1 h2 (n:=n) (by omega)
   omega
set_option linter.unusedSectionVars false
section
variable {P:Program} {G:List ba} {N M:Nat} {ops:Array Oper} {s:Nat->St} {ks:Nat->List Nat} {val:Nat->D} (hc:Chain P G N M ops s ks val) (lJ:Hu G ops=true)
include hc lJ
theorem Zq5{c0:Ctx}{w0:World}{du:Nat->Bool}{a:Act}{w:World}{c d:Nat}(hI:Inv P G N M ops s val c0 w0 du a w c d)(iJ:∀i,i<ops.size->du i=true):∃cx,fg N M c0 w0 cx w (s ops.size) a:=by
 obtain⟨cx,hm,hR,hE,nP⟩:=hI.ctx
 have hd:d=ops.size:=by
  by_cases h:d<ops.size
  ·have:=iJ d h
   rw[hI.post d (aX _)]at this;cases this
  ·have:=hI.dn;omega
 subst hd
 have VF:=hI.cd
 have hl:∀k,k<ops.size-c->du (c+k)=true:=λk hk=>iJ _ (by omega)
 refine⟨cx,hm,λr=>?_,λt=>?_,hI.size,hI.defers,hI.fw,hI.gp,nP⟩
 ·rw[hR,RR hc hI.quiet hI.dn (by omega) hl,show c+(ops.size-c)=ops.size by omega]
 ·have:=hE t
  rw[RQ hc hI.quiet hI.dn (by omega) hl]at this
  rwa [show c+(ops.size-c)=ops.size by omega]at this
theorem vF{c0:Ctx}{w0:World}{Q:Exit->Act->World->Prop}(hQ:∀c w a,fg N M c0 w0 c w (s ops.size) a->Q .normal a w):∀(fuel:Nat) (ar:Array Bool) (a:Act) (w:World) (c d:Nat),ar.size=ops.size->mA (λi=>ar.getD i false) ops.size<=fuel->
 Inv P G N M ops s val c0 w0 (λi=>ar.getD i false) a w c d->Hz P .any ops Q fuel ar a w:=by
 intro fuel
 have Ay:∀(ar:Array Bool) (i:Nat),ar.size=ops.size->(i∈Region.ready .any ops ar↔ ∃o,ops[i]?=some o/\ar.getD i false=false/\∀e∈o.after,Region.binds .any e=true->ar.getD e.on false=true):=by
  intro ar i fq
  unfold Region.ready
  rw[List.mem_filter,List.mem_range]
  constructor
  ·rintro⟨h1,h2⟩
   have ho:ops[i]?=some ops[i]:=aU h1
   simp only[ho,bA,aR,aE,bB]at h2
   refine⟨_,ho,?_,λe he hb=>?_⟩
   ·have hl:i<ar.size:=by omega
    have:=h2.1
    simpa[aY,hl]using this
   ·have:=Array.all_eq_true'.1 h2.2 e he
    simpa[hb]using this
  ·rintro⟨o,ho,h1,h2⟩
   have bg:=(Array.getElem?_eq_some_iff.1 ho).1
   refine⟨bg,?_⟩
   simp only[ho,bA,aR,aE,bB]
   have hl:i<ar.size:=by omega
   refine⟨by simpa[aY,hl]using h1,Array.all_eq_true'.2 λe he=>?_⟩
   cases hb:Region.binds .any e with
   |false=>rfl
   |true=>simpa[hb]using h2 e he hb
 have j6:∀(ar:Array Bool),ar.size=ops.size->Region.ready .any ops ar=[]->∀i,i<ops.size->ar.getD i false=true:=by
  intro ar fq he i
  induction i using Nat.strongRecOn with
  |_ i ih=>
   intro hi
   cases hl:ar.getD i false with
   |true=>rfl
   |false=>
    exfalso
    have ho:ops[i]?=some ops[i]:=aU hi
    have:i∈Region.ready .any ops ar:=(Ay ar i fq).2 ⟨_,ho,hl,λe wJ hb=>by
     have:=Zmd lJ ho e wJ hb
     exact ih e.on this (by omega)⟩
    rw[he]at this;cases this
 induction fuel with
 |zero=>
  intro ar a w c d fq Bj hI
  have iJ:=VD (du:=λi=>ar.getD i false) (Nat.le_zero.1 Bj)
  refine⟨?_,?_⟩
  ·rw[List.eq_nil_iff_forall_not_mem]
   intro i hi
   obtain⟨o,ho,h1,_⟩:=(Ay ar i fq).1 hi
   have:=iJ i (Array.getElem?_eq_some_iff.1 ho).1
   rw[h1]at this;cases this
  ·obtain⟨cx,hs⟩:=Zq5 hc lJ hI iJ
   exact hQ cx w a hs
 |succ fuel ih=>
  intro ar a w c d fq Bj hI
  refine⟨λhe=>?_,λi hi=>?_⟩
  ·obtain⟨cx,hs⟩:=Zq5 hc lJ hI (j6 ar fq he)
   exact hQ cx w a hs
  ·obtain⟨o,ho,h1,h2⟩:=(Ay ar i fq).1 hi
   have bg:=(Array.getElem?_eq_some_iff.1 ho).1
   have rQ:(ar.setIfInBounds i true).getD i false=true:=by
    have hl:i<ar.size:=by omega
    simp[aY,hl]
   have rR:∀k,k≠i->(ar.setIfInBounds i true).getD k false=ar.getD k false:=λk hk=>by
    rw[aQ,aZ (Ne.symm hk),<-aQ]
   refine yF hc lJ (ga:=λk=>(ar.setIfInBounds i true).getD k false) hI ho h1 rQ rR h2 λa' w' c' d' VG=>?_
   refine ih _ a' w' c' d' (by simpa using fq) ?_ VG
   have:=VE (du:=λk=>ar.getD k false) (ga:=λk=>(ar.setIfInBounds i true).getD k false) h1 rQ rR bg
   omega
end
theorem fg.drew{N M:Nat}{c0:Ctx}{w0:World}{c:Ctx}{w:World}{st:St}{a:Act}(h:fg N M c0 w0 c w st a):fg N M c0 w0 c w.drew st a:=
 ⟨Ht h.mem,h.rows,λt=>wM (JK c w) (h.env t),h.size,h.defers,h.fw,h.gp,h.reach.step (ks:=[]) (λk hk=>by simp[cv]at hk) h.gp
  (lu.toK ⟨Ht h.mem,JK c w,⟨rfl,rfl,rfl,aX _,λ_ _ _=>rfl⟩,λb hb=>.inl hb,λr row hr v=>.inl ⟨⟨row,hr⟩,v,rfl⟩⟩)⟩
theorem xa{P:Program}(hm:P.follows .mixedOrders=true):∀(ro:Option Nat) (T:e7) (G:List ba) (N M id:Nat) (ops:Array Oper) (st:St) (Q:Ex->St->Prop),jb P T->jr P G->Hu G ops=true->(lI T G N M ops ops.toList st λst=>Q .normal st)->tF ro P N M (.region id ops true) st Q:=by
 intro ro T G N M id ops st Q hT hG hd h c0 w0 c w a hs
 obtain⟨s,ks,val,h1,h2,h3,h4,h5⟩:=Zpo hT hG ops.toList 0 st (by simp) h
 have hc:Chain P G N M ops s ks val:=⟨λi o ho=>h3 i o (bC _) ho,λi o t ho=>h4 i o t (bC _) ho,λi o t ho=>h5 i o t (bC _) ho⟩
 have hs:=hs.drew
 refine Qxx hm ?_
 obtain⟨d,g1,g2,g3,g4⟩:=My G ops _ 0 rfl (bC _)
 have hz:∀i,(Array.replicate ops.size false).getD i false=false:=λi=>by
  by_cases h:i<ops.size
  ·simp[aY,h]
  ·simp[aY,h]
 refine vF hc hd (Q:=λe a' w'=>∃ex jh c',mC e=some ex/\Q ex jh/\fg N M c0 w0 c' w' jh a') (λc w a iP=>⟨_,_,c,rfl,by simpa using h2,iP⟩) ops.size _ a _ 0 d (by simp) (VC _ _)
  ⟨g1,g2,λi hi=>by omega,λi _=>hz i,g3,g4,λj hj=>by simp[hz]at hj,hs.size,hs.defers,hs.fw,hs.gp,c,hs.mem,λr=>?_,λt=>?_,hs.reach⟩
 ·rw[RU (λi _=>hz _),h1];exact hs.rows r
 ·rw[RS (λi _=>hz _),h1];exact hs.env t
