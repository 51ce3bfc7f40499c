import Derived.Test.YthjfindbamdacaaGreatDoorAuditAcceptsFt
open List renaming drop_eq_nil_of_le->aA,drop_eq_getElem_cons->aB,foldl_cons->aD,getD->aK,getElem?_eq_none->aM
open Array renaming getD_eq_getD_getElem?->aF,foldl_toList->aH,getElem?_eq_getElem->aJ,getD->aP,getElem?_setIfInBounds_ne->aQ
open Option renaming getD_some->aG,bind_some->aL,map_some->aR
open Bool renaming or_eq_true->aI,false_eq_true->aN,not_eq_true'->aS
open Nat renaming le_refl->aO,zero_le->aT
set_option linter.all false
namespace Go.GD
open Go
variable {G:List bf}{M N c d i j k l r:Nat}{P:Program}{R R':Rows}{a:Act}{c0:Ctx}{dr:Nat->Bool}{o x y:Oper}{ops:Array Oper}{w w0:World}
structure Chain(P:Program)(G:List bf)(N M:Nat)(ops:Array Oper)(s:Nat->St)(ks:Nat->List Nat)(val:Nat->D):Prop where
 op:∀(i:Nat) (o:Oper),ops[i]?=some o->nE P G M ops o (s i).env (s i).rows (ks i) (val i) (s (i+1)).rows
 env:∀(i:Nat) (o:Oper) (t:Nat),ops[i]?=some o->look (s (i+1)).env t=if o.dst=some t then val i else look (sD (ks i) (s i).env) t
 dst:∀(i:Nat) (o:Oper) (t:Nat),ops[i]?=some o->o.dst=some t->t<N
theorem Zq5{P:Program}{T:iM}(hT:jD P T){G:List bf}(hG:j5 P G){N M:Nat}{ops:Array Oper}{K:St->Prop}:∀(l:List Oper) (k:Nat) (st:St),ops.toList.drop k=l->mn T G N M ops l st K->
 ∃ (s:Nat->St) (ks:Nat->List Nat) (val:Nat->D),s k=st/\K (s (k+l.length))/\(∀(i:Nat) (o:Oper),k<=i->ops[i]?=some o->nE P G M ops o (s i).env (s i).rows (ks i) (val i) (s (i+1)).rows)/\
  (∀(i:Nat) (o:Oper) (t:Nat),k<=i->ops[i]?=some o->look (s (i+1)).env t=if o.dst=some t then val i else look (sD (ks i) (s i).env) t)/\(∀(i:Nat) (o:Oper) (t:Nat),k<=i->ops[i]?=some o->o.dst=some t->t<N)
 |[],k,st,hk,h=>by
  have hlen:ops.size<=k:=by
   have:=congrArg List.length hk
   simp at this;omega
  have no:∀(i:Nat) (o:Oper),k<=i->ops[i]?=some o->False:=λi o hi ho=>by
   have:=(Array.getElem?_eq_some_iff.1 ho).1;omega
  exact⟨λ_=>st,λ_=>[],λ_=>.dead,rfl,h,λi o hi ho=>(no i o hi ho).elim,λi o t hi ho=>(no i o hi ho).elim,λi o t hi ho=>(no i o hi ho).elim⟩
 |o ::l,k,st,hk,h=>by
  have bz:k<ops.toList.length:=by
   by_cases bz:k<ops.toList.length
   ·exact bz
   ·rw[aA (by omega)]at hk;cases hk
  rw[aB bz]at hk
  have ho:ops[k]?=some o:=by
   have:=(List.cons.inj hk).1
   rw[<-this]
   simp at bz
   simp[bz]
  obtain⟨kk,v,R',iN,h1,h2,h3,h4⟩:=Wx hT hG h
  obtain⟨s,ks,val,g1,g2,g3,g4,g5⟩:=Zq5 hT hG l (k+1) _ (List.cons.inj hk).2 h4
  refine⟨λi=>if i=k then st else s i,λi=>if i=k then kk else ks i,λi=>if i=k then v else val i,by simp,?_,λi p hi hp=>?_,λi p t hi hp=>?_,λi p t hi hp hd=>?_⟩
  ·simp only[List.length_cons]
   rw[if_neg (by omega),show k+(l.length+1)=k+1+l.length by omega]
   exact g2
  ·by_cases e:i=k
   ·subst e
    rw[ho]at hp;cases hp
    simp only[if_true,show¬i+1=i by omega,if_false,g1]
    exact h3
   ·simp only[if_neg e,if_neg (show¬i+1=k by omega)]
    exact g3 i p (by omega) hp
  ·by_cases e:i=k
   ·subst e
    rw[ho]at hp;cases hp
    simp only[if_true,show¬i+1=i by omega,if_false,g1]
    cases uf:o.dst with
    |none=>simp[sE,h1]
    |some u=>simp only[sE,Bx,Option.some.injEq,h1]
   ·simp only[if_neg e,if_neg (show¬i+1=k by omega)]
    exact g4 i p t (by omega) hp
  ·by_cases e:i=k
   ·subst e
    rw[ho]at hp;cases hp
    exact h2 t hd
   ·exact g5 i p t (by omega) hp hd
theorem Z4l(ops:Array Oper): ∀(l:List Oper) (acc:Array Nat),(∀k,acc.size<=k-> ∀i,(acc.getD k 0).testBit i=false)->
    ∀(listed:Nat->Prop),(∀(j:Nat) (hj:j<acc.size) (i:Nat),(∀o,ops[j]? =some o-> ∀e∈o.after,Region.binds .any e=true->listed e.on)->(acc.getD j 0).testBit i=true->listed i)->
    (∀j,listed j-> ∀o,ops[j]? =some o-> ∀e∈o.after,Region.binds .any e=true->listed e.on)->ops.toList.drop acc.size=l->
    ∀ (j i:Nat),(∀o,ops[j]? =some o-> ∀e∈o.after,Region.binds .any e=true->listed e.on)->
      ((l.foldl (λ(acc:Array Nat) o=>acc.push (o.after.foldl (λs e=>if Region.binds .any e then s|||2^e.on|||acc.getD e.on 0 else s) 0)) acc).getD j 0).testBit i=true->listed i
  | [],acc,hz,listed,Fa,gl,hl,j,i,hj,h=>by
    simp only[List.foldl_nil]at h
    by_cases bz:j<acc.size
    . exact Fa j bz i hj h
    . rw[hz j (by omega) i]at h;cases h
  | o :: l, acc,hz,listed,Fa,gl,hl,j,i,hj,h=>by
    simp only[aD]at h
    have bz:acc.size<ops.toList.length:=by
      by_cases bz:acc.size<ops.toList.length
      . exact bz
      . rw[aA (by omega)]at hl;cases hl
    rw[aB bz]at hl
    have ho:ops[acc.size]? =some o:=by
      rw[<-(List.cons.inj hl).1]
      simp at bz
      simp [bz]
    refine Z4l ops l _ (λk hk i=> ?_) listed (λk hk i Fb hb=> ?_) gl (by simpa using(List.cons.inj hl).2) j i hj h
    . simp at hk
      rw[aF,Array.getElem?_eq_none (by simp;omega)]
      simp
    . simp only [Array.size_push]at hk
      by_cases e:k=acc.size
      . subst e
        rw[aF,Array.getElem?_push_size,aG]at hb
        have iU:=Fb o ho
        rw[<-aH]at hb
        have fold: ∀(es:List Edge) (s0:Nat),(∀e∈es,Region.binds .any e=true->listed e.on)->(s0.testBit i=true->listed i)->(es.foldl (λs e=>if Region.binds .any e then s|||2^e.on|||acc.getD e.on 0 else s) s0).testBit i=true->listed i:=by
          intro es
          induction es with
          |nil=>intro s0 _ h0 hb;exact h0 hb
          | cons e es ih=>
            intro s0 he h0 hb
            simp only[aD]at hb
            refine ih _ (λe' Av=>he e' (by simp [Av])) (λhs=> ?_) hb
            split at hs
            . rename_i Nt
              have hle:=he e (by simp) Nt
              simp only[Nat.testBit_or,aI,Nat.testBit_two_pow,decide_eq_true_eq]at hs
              rcases hs with(hs|hs)|hs
              . exact h0 hs
              . rw[<-hs];exact hle
              . by_cases bz:e.on<acc.size
                . exact Fa e.on bz i (gl e.on hle) hs
                . rw[hz e.on (by omega) i]at hs;cases hs
            . exact h0 hs
        exact fold o.after.toList 0 (λe he hb=>iU e (by simpa using he) hb) (by simp) hb
      . have nb:k<acc.size:=by omega
        rw[aF,Array.getElem?_push_lt nb,<-aJ nb,<-aF]at hb
        exact Fa k nb i Fb hb
theorem SM{listed:Nat->Prop}(gl:∀j,listed j->∀o,ops[j]?=some o->∀e∈o.after,Region.binds .any e=true->listed e.on)
 (hj:∀o,ops[j]?=some o->∀e∈o.after,Region.binds .any e=true->listed e.on) (h:((Region.before ops).getD j 0).testBit i=true):listed i:=by
 refine Z4l ops ops.toList #[] (λk _ i=>by simp) listed (λj hj=>by simp at hj) gl (by simp) j i hj ?_
 have:Region.before ops=ops.toList.foldl (λ(acc:Array Nat) o=>acc.push (o.after.foldl (λs e=>if Region.binds .any e then s|||2^e.on|||acc.getD e.on 0 else s) 0)) #[]:=by
  unfold Region.before
  rw[<-aH]
 rw[<-this];exact h
theorem Nu(h:Is G ops=true)(Wy:i<j)(hx:ops[i]?=some x)(hy:ops[j]?=some y):
 (x.apart ops y=true\/((Region.before ops).getD j 0).testBit i=true)/\((lI G x.op=true/\lI G y.op=true)\/((Region.before ops).getD j 0).testBit i=true):=by
 have hj:=(Array.getElem?_eq_some_iff.1 hy).1
 have h1:=List.all_eq_true.1 h j (List.mem_range.2 hj)
 simp only[aE]at h1
 have h2:=List.all_eq_true.1 h1.2 i (List.mem_range.2 Wy)
 unfold BU at h2
 simp only[hx,hy,aE,aI]at h2
 exact h2
theorem Znx(h:Is G ops=true)(hy:ops[j]?=some y):∀e∈y.after,Region.binds .any e=true->e.on<j:=by
 have hj:=(Array.getElem?_eq_some_iff.1 hy).1
 have h1:=List.all_eq_true.1 h j (List.mem_range.2 hj)
 simp only[aE,hy]at h1
 intro e he hb
 have:=Array.all_eq_true'.1 h1.1 e he
 simp only[hb,Bool.not_true,Bool.false_or]at this
 exact lE this
theorem Wz{o:Op}(h:lI G o=true):sF G o=false:=by
 simpa[lI]using h
theorem WA{env:List (Nat×D)}{ks:List Nat}{v:D}(h:nE P G M ops o env R ks v R')(hq:lI G o.op=true):ks=[]/\∃news,R'=R++news:=by
 have one:pT P G M o (cb env) R ks v R'->ks=[]/\∃news,R'=R++news:=λh=>by
  unfold pT at h
  rw[Wz hq]at h
  exact⟨h.1,h.2.1⟩
 unfold nE at h
 split at h
 ·exact one h
 ·obtain⟨g,_,⟨b,_,h⟩|⟨_,h⟩⟩:=h
  ·split at h
   ·exact one h
   ·exact⟨h.1,[],by rw[h.2.2];simp⟩
  ·exact⟨h.1,[],by rw[h.2.2];simp⟩
def ji(ops:Array Oper)(s:Nat->St)(val:Nat->D)(dr:Nat->Bool)(c:Nat):Nat->Nat->D
 |0,t=>look (s c).env t
 |n+1,t=>if dr (c+n)=true/\(ops[c+n]?).bind (·.dst)=some t then val (c+n)else ji ops s val dr c n t
def kL(s:Nat->St)(dr:Nat->Bool)(c:Nat):Nat->Nat->Option Row
 |0,r=>(s c).rows.getD r none
 |n+1,r=>if dr (c+n)=true/\(s (c+n)).rows.length<=r/\r<(s (c+n+1)).rows.length then(s (c+n+1)).rows.getD r none else kL s dr c n r
theorem Chain.Fc{s:Nat->St}{ks:Nat->List Nat}{val:Nat->D}(hc:Chain P G N M ops s ks val)(ho:ops[i]?=some o)(hq:lI G o.op=true)(t:Nat):look (s (i+1)).env t=if o.dst=some t then val i else look (s i).env t:=by
 rw[hc.env i o t ho,(WA (hc.op i o ho) hq).1,pk]
theorem KM.toW{c c':Ctx}{w w':World}(hs:KM c w R R' c' w'):lY c w c' w':=
 ⟨hs.mem,hs.cg,hs.fr.mono (λb _ hf=>hf.elim),hs.fu,λr ao nF hv=>by
  by_cases h1:R.length<=r/\r<R'.length
  ·exact .inr (hs.new r h1.1 h1.2 hv)
  ·rw[hs.rows,if_neg h1]at nF
   obtain⟨h2,h3⟩:=hs.jE r (by omega)
   exact .inl ⟨⟨_,nF⟩,λe=>hv (h3.2 e),h2⟩⟩
theorem Qof{R news:Rows}(h:r<R.length):(R++news).getD r none=R.getD r none:=by
 simp[aK,List.getElem?_append_left h]
section
variable {P:Program} {G:List bf} {N M:Nat} {ops:Array Oper} {s:Nat->St} {ks:Nat->List Nat} {val:Nat->D} (hc:Chain P G N M ops s ks val) (mU:Is G ops=true)
include hc
theorem Z5o(hq:∀(i:Nat) (o:Oper),c<=i->i<d->ops[i]?=some o->lI G o.op=true)(hd:d<=ops.size)(hk:c<=k):∀{l:Nat},k<=l->l<=d->∃news,(s l).rows=(s k).rows++news:=by
 intro l hl
 induction l with
 |zero=>intro _;exact⟨[],by rw[show k=0 by omega];simp⟩
 |succ l ih=>
  intro DY
  by_cases e:k=l+1
  ·exact⟨[],by rw[e];simp⟩
  ·obtain⟨n1,h1⟩:=ih (by omega) (by omega)
   have ho:ops[l]?=some ops[l]:=aJ (by omega)
   obtain⟨_,n2,h2⟩:=WA (hc.op l _ ho) (hq l _ (by omega) (by omega) ho)
   exact⟨n1++n2,by rw[h2,h1,List.append_assoc]⟩
theorem KN(hq:∀(i:Nat) (o:Oper),c<=i->i<d->ops[i]?=some o->lI G o.op=true)(hd:d<=ops.size)(hk:c<=k)(hl:k<=l)(DY:l<=d):(s k).rows.length<=(s l).rows.length:=by
 obtain⟨n,h⟩:=Z5o hc hq hd hk hl DY
 rw[h];simp
theorem KO(hq:∀(i:Nat) (o:Oper),c<=i->i<d->ops[i]?=some o->lI G o.op=true)(hd:d<=ops.size)(hk:c<=k)(hl:k<=l)(DY:l<=d)(hr:r<(s k).rows.length):(s l).rows.getD r none=(s k).rows.getD r none:=by
 obtain⟨n,h⟩:=Z5o hc hq hd hk hl DY
 rw[h,Qof hr]
theorem SN{dr:Nat->Bool}{c d:Nat}(hq:∀(i:Nat) (o:Oper),c<=i->i<d->ops[i]?=some o->lI G o.op=true)(hd:d<=ops.size):∀{n:Nat},c+n<=d->(∀i,i<n->dr (c+i)=true)->∀t,ji ops s val dr c n t=look (s (c+n)).env t
 |0,_,_,t=>rfl
 |n+1,hn,hl,t=>by
  have ho:ops[c+n]?=some ops[c+n]:=aJ (by omega)
  simp only[ji,hl n (by omega),true_and,ho,aL]
  rw[show c+(n+1)=(c+n)+1 by omega,hc.Fc ho (hq _ _ (by omega) (by omega) ho) t]
  split
  ·rfl
  ·exact SN hq hd (by omega) (λi hi=>hl i (by omega)) t
theorem SO{dr:Nat->Bool}{c d:Nat}(hq:∀(i:Nat) (o:Oper),c<=i->i<d->ops[i]?=some o->lI G o.op=true)(hd:d<=ops.size):∀{n:Nat},c+n<=d->(∀i,i<n->dr (c+i)=true)->∀r,kL s dr c n r=(s (c+n)).rows.getD r none
 |0,_,_,r=>rfl
 |n + 1,hn,hl,r=>by
  simp only[kL,hl n (by omega),true_and]
  rw[show c+(n+1)=c+n+1 by omega]
  split
  ·rfl
  ·rename_i h1
   rw[SO hq hd (by omega) (λi hi=>hl i (by omega)) r]
   by_cases h2:r<(s (c+n)).rows.length
   ·exact(KO hc hq hd (by omega) (by omega) (by omega) h2).symm
   ·have hlen:=KN hc hq hd (show c<=c+n by omega) (show c+n<=c+n+1 by omega) (by omega)
    simp only[aK]
    rw[aM (by omega),aM (by omega)]
end
theorem SP{ops:Array Oper}{s:Nat->St}{val:Nat->D}{dr:Nat->Bool}{c:Nat}:∀{n:Nat},(∀i,i<n->dr (c+i)=false)->∀t,ji ops s val dr c n t=look (s c).env t
 |0,_,t=>rfl
 |n+1,hl,t=>by
  simp only[ji,hl n (by omega),aN,false_and,if_false]
  exact SP (λi hi=>hl i (by omega)) t
theorem SQ{s:Nat->St}{dr:Nat->Bool}{c:Nat}:∀{n:Nat},(∀i,i<n->dr (c+i)=false)->∀r,kL s dr c n r=(s c).rows.getD r none
 |0,_,r=>rfl
 |n+1,hl,r=>by
  simp only[kL,hl n (by omega),aN,false_and,if_false]
  exact SQ (λi hi=>hl i (by omega)) r
theorem SR{ops:Array Oper}{s:Nat->St}{val:Nat->D}{dr gk:Nat->Bool}{c:Nat}:∀{n:Nat},(∀i,i<n->gk (c+i)=dr (c+i))->∀t,ji ops s val gk c n t=ji ops s val dr c n t
 |0,_,t=>rfl
 |n+1,hl,t=>by simp only[ji,hl n (by omega),SR (n:=n) (λi hi=>hl i (by omega)) t]
theorem SS{s:Nat->St}{dr gk:Nat->Bool}{c:Nat}:∀{n:Nat},(∀i,i<n->gk (c+i)=dr (c+i))->∀r,kL s gk c n r=kL s dr c n r
 |0,_,r=>rfl
 |n+1,hl,r=>by simp only[kL,hl n (by omega),SS (n:=n) (λi hi=>hl i (by omega)) r]
theorem WB{ops:Array Oper}{s:Nat->St}{val:Nat->D}{dr gk:Nat->Bool}{c i:Nat}{o:Oper}(ho:ops[i]? =some o)(pU:c<=i)(h0:dr i=false)(h1:gk i=true)(h2: ∀k,k≠i->gk k=dr k){t:Nat}
    (sG: ∀k o',i<k->dr k=true->ops[k]? =some o'->o'.dst=some t->o.dst=some t->False): ∀{n:Nat},i<c+n->ji ops s val gk c n t=if o.dst=some t then val i else ji ops s val dr c n t
  |0,h=>by omega
  | n + 1,h=>by
    by_cases e:i=c+n
    . simp only[ji,<-e,h0,h1,ho,aL,true_and,aN,false_and,if_false]
      split
      . rfl
      . exact SR (λk hk=>h2 _ (by omega)) t
    . simp only[ji,h2 (c+n) (λe'=>e e'.symm)]
      rw[WB ho pU h0 h1 h2 sG (n:=n) (by omega)]
      by_cases g:dr (c+n)=true/\(ops[c+n]?).bind (·.dst)=some t
      . by_cases hd:o.dst=some t
        . exfalso
          obtain⟨g1,g2⟩:=g
          cases hk:ops[c+n]? with
          |none=>rw[hk]at g2;cases g2
          | some o'=>
            rw[hk]at g2
            exact sG (c+n) o' (by omega) g1 hk g2 hd
        . rw[if_pos g,if_neg hd,if_pos g]
      . rw[if_neg g,if_neg g]
theorem WC{s:Nat->St}{dr gk:Nat->Bool}{c i:Nat}(pU:c<=i)(h0:dr i=false)(h1:gk i=true)(h2:∀k,k≠i->gk k=dr k){r d:Nat}
 (hlen:∀k,i<k->k<d->(s (i+1)).rows.length<=(s k).rows.length):∀{n:Nat},i<c+n->c+n<=d->kL s gk c n r=if(s i).rows.length<=r/\r<(s (i+1)).rows.length then(s (i+1)).rows.getD r none else kL s dr c n r
 |0,h,_=>by omega
 |n +1,h,hn=>by
  by_cases e:i=c+n
  ·simp only[kL,<-e,h0,h1,true_and,aN,false_and,if_false]
   split
   ·rfl
   ·exact SS (λk hk=>h2 _ (by omega)) r
  ·simp only[kL,h2 (c+n) (λe'=>e e'.symm)]
   rw[WC pU h0 h1 h2 hlen (n:=n) (by omega) (by omega)]
   have:=hlen (c+n) (by omega) (by omega)
   by_cases g:dr (c+n)=true/\(s (c+n)).rows.length<=r/\r<(s (c+n+1)).rows.length
   ·rw[if_pos g,if_neg (by omega),if_pos g]
   ·rw[if_neg g,if_neg g]
theorem Gx(h:x.apart ops y=true){t:Nat}:(x.dst=some t->y.dst≠some t)/\(x.dst=some t->t∉y.looksAt ops)/\(y.dst=some t->t∉x.looksAt ops):=by
 obtain⟨h1,h2,h3⟩:=Oper.apart_spec h
 exact⟨λe=>h2 t e,λe=>h1 t e,λe=>h3 t e⟩
structure Inv(P:Program)(G:List bf)(N M:Nat)(ops:Array Oper)(s:Nat->St)(val:Nat->D)(c0:Ctx)(w0:World)(dr:Nat->Bool)(a:Act)(w:World)(c d:Nat):Prop where
 cd:c<=d
 dn:d<=ops.size
 pre:∀i,i<c->dr i=true
 post:∀i,d<=i->dr i=false
 quiet:∀(i:Nat) (o:Oper),c<=i->i<d->ops[i]?=some o->lI G o.op=true
 wr:∀(o:Oper),ops[d]?=some o->lI G o.op=false
 closed:∀j,dr j=true->∀(o:Oper),ops[j]?=some o->∀e∈o.after,Region.binds .any e=true->dr e.on=true
 size:N<=a.tmps.size
 defers:mo w0.heap.size w a.defers
 gh:c0.base<=w0.heap.size
 gy:∀r row,c0.R r=some row->r<M
 ctx:∃cx,Mem cx w/\(∀r,cx.R r=kL s dr c (d-c) r)/\(∀t,Rep cx w (ji ops s val dr c (d-c) t) (a.tmps.getD t undef))/\Aw c0 w0 cx w
theorem Nv(G:List bf)(ops:Array Oper):∀(n c:Nat),ops.size-c=n->c<=ops.size->∃d,c<=d/\d<=ops.size/\(∀(i:Nat) (o:Oper),c<=i->i<d->ops[i]?=some o->lI G o.op=true)/\(∀(o:Oper),ops[d]?=some o->lI G o.op=false)
 |0,c,h,hc=>⟨c,aO _,hc,λi o h1 h2=>by omega,λo ho=>by
  have:=(Array.getElem?_eq_some_iff.1 ho).1;omega⟩
 |n +1,c,h,hc=>by
  have ho:ops[c]?=some ops[c]:=aJ (by omega)
  cases hq:lI G ops[c].op with
  |false=>exact⟨c,aO _,hc,λi o h1 h2=>by omega,λo h'=>by rw[ho]at h';cases h';exact hq⟩
  |true=>
   obtain⟨d,h1,h2,h3,h4⟩:=Nv G ops n (c+1) (by omega) (by omega)
   refine⟨d,by omega,h2,λi o hi hid h'=>?_,h4⟩
   by_cases e:i=c
   ·subst e;rw[ho]at h';cases h';exact hq
   ·exact h3 i o (by omega) hid h'
section
variable {P:Program} {G:List bf} {N M:Nat} {ops:Array Oper} {s:Nat->St} {ks:Nat->List Nat} {val:Nat->D} (hc:Chain P G N M ops s ks val) (mU:Is G ops=true)
include hc mU
theorem vG{dr gk:Nat->Bool}(hI:Inv P G N M ops s val c0 w0 dr a w c d)(ho:ops[i]?=some o)(h0:dr i=false)(h1:gk i=true)(h2:∀k,k≠i->gk k=dr k)
 (Nw:∀e∈o.after,Region.binds .any e=true->dr e.on=true) {K:Act->World->Prop} {Q:Exit->Act->World->Prop} (hK:∀a' w' c' d',Inv P G N M ops s val c0 w0 gk a' w' c' d'->K a' w'):wpOp P ops Q i K a w:=by
 have bz:=(Array.getElem?_eq_some_iff.1 ho).1
 have ry:∀k,((Region.before ops).getD i 0).testBit k=true->dr k=true:=λk hk=>
  SM (listed:=λk=>dr k=true) hI.closed (λo' jd=>by rw[ho]at jd;cases jd;exact Nw) hk
 have oh:∀j k,dr j=true->((Region.before ops).getD j 0).testBit k=true->dr k=true:=λj k hj hk=>
  SM (listed:=λk=>dr k=true) hI.closed (hI.closed j hj) hk
 have pU:c<=i:=by
  by_cases h:c<=i
  ·exact h
  ·rw[hI.pre i (by omega)]at h0;cases h0
 have ug:∀j,gk j=true->∀(o:Oper),ops[j]?=some o->∀e∈o.after,Region.binds .any e=true->gk e.on=true:=by
  intro j hj o' jd e he hb
  have gv:dr e.on=true:=by
   by_cases e':j=i
   ·subst e';rw[ho]at jd;cases jd;exact Nw e he hb
   ·rw[h2 j e']at hj;exact hI.closed j hj o' jd e he hb
  rw[h2 e.on (λe'=>by rw[e',h0]at gv;cases gv)]
  exact gv
 have hid:i<=d:=by
  by_cases h:i<=d
  ·exact h
  ·exfalso
   have BV:ops[d]?=some ops[d]:=aJ (by omega)
   have:=(Nu mU (show d<i by omega) BV ho).2
   rcases this with⟨hq,_⟩|hb
   ·rw[hI.wr _ BV]at hq;cases hq
   ·have:=ry d hb
    rw[hI.post d (aO _)]at this;cases this
 obtain⟨cx,hm,hR,hE,oi⟩:=hI.ctx
 by_cases e:i=d
 ·
  subst e
  have iU:∀k,k<i-c->dr (c+k)=true:=λk hk=>by
   have dz:ops[c+k]?=some ops[c+k]:=aJ (by omega)
   have:=(Nu mU (show c+k<i by omega) dz ho).2
   rcases this with⟨_,hq⟩|hb
   ·rw[hI.wr _ ho]at hq;cases hq
   ·exact ry _ hb
  have hs:fw N M c0 w0 cx w (s i) a:=by
   refine⟨hm,λr=>?_,λt=>?_,hI.size,hI.defers,hI.gh,hI.gy,oi⟩
   ·rw[hR,SO hc hI.quiet hI.dn (by omega) iU]
    rw[show c+(i-c)=i by omega]
   ·have:=hE t
    rw[SN hc hI.quiet hI.dn (by omega) iU]at this
    rwa [show c+(i-c)=i by omega]at this
  refine xX ho hs (λ_=>rfl) (λt=>hc.dst i o t ho) (hc.op i o ho) λa' w' c' jl=>?_
  obtain⟨d',g1,g2,g3,g4⟩:=Nv G ops _ (i+1) rfl (by omega)
  have sG:∀k,k<d'-(i+1)->gk (i+1+k)=false:=λk hk=>by
   rw[h2 _ (by omega)];exact hI.post _ (by omega)
  refine hK a' w' (i+1) d' ⟨g1,g2,λk hk=>?_,λk hk=>?_,g3,g4,ug,jl.size,jl.defers,jl.gh,jl.gy,c',jl.mem,λr=>?_,λt=>?_,jl.reach⟩
  ·by_cases e':k=i
   ·rw[e'];exact h1
   ·rw[h2 k e']
    by_cases WD:k<c
    ·exact hI.pre k WD
    ·have:=iU (k-c) (by omega)
     rwa [show c+(k-c)=k by omega]at this
  ·rw[h2 k (by omega)];exact hI.post k (by omega)
  ·rw[SQ sG];exact jl.rows r
  ·rw[SP sG,hc.env i o t ho]
   have:=jl.env t
   cases hd:o.dst with
   |none=>simpa[sE,hd]using this
   |some u=>simpa only[sE,hd,Bx,Option.some.injEq]using this
 ·
  have It:i<d:=by omega
  have hq:=hI.quiet i o pU It ho
  have Nx:=Wz hq
  have Iu :∀t∈o.looksAt ops,∀n,c+n<=d->ji ops s val dr c n t=if c+n<=i then look (s (c+n)).env t else look (s i).env t:=by
   intro t ht n
   induction n with
   |zero=>intro _;simp only[ji,Nat.add_zero];rw[if_pos pU]
   |succ n ih=>
    intro hn
    have Iv:=hI.dn
    obtain⟨ok,dz⟩:∃ok,ops[c+n]?=some ok:=⟨_,aJ (show c+n<ops.size by omega)⟩
    have ih:=ih (by omega)
    simp only[ji,dz,aL]
    by_cases hk:c+n<i
    ·have hA:c+(n+1)<=i:=by omega
     have SU:c+n<=i:=by omega
     rw[if_pos hA,show c+(n+1)=c+n+1 by omega,hc.Fc dz (hI.quiet _ _ (by omega) (by omega) dz) t]
     rw[if_pos SU]at ih
     by_cases hd:ok.dst=some t
     ·have hl:dr (c+n)=true:=by
       rcases(Nu mU hk dz ho).1 with uh|hb
       ·exact((Gx uh).2.1 hd ht).elim
       ·exact ry _ hb
      rw[if_pos ⟨hl,hd⟩,if_pos hd]
     ·rw[if_neg (λg=>hd g.2),if_neg hd,ih]
    ·have Iw:¬(dr (c+n)=true/\ok.dst=some t):=by
      rintro⟨g1,g2⟩
      by_cases e':c+n=i
      ·rw[e',h0]at g1;cases g1
      ·have oj:i<c+n:=by omega
       rcases(Nu mU oj ho dz).1 with uh|hb
       ·exact(Gx uh).2.2 g2 ht
       ·have:=oh _ _ g1 hb
        rw[h0]at this;cases this
     have hA:¬c+(n+1)<=i:=by omega
     rw[if_neg Iw,ih,if_neg hA]
     split
     ·rw[show c+n=i by omega]
     ·rfl
  have Ny:∀t∈o.looksAt ops,Rep cx w (look (s i).env t) (a.tmps.getD t undef):=λt ht=>by
   have:=hE t
   rw[Iu t ht (d-c) (by omega),if_neg (by omega)]at this
   exact this
  have hlen:∀k l,c<=k->k<=l->l<=d->(s k).rows.length<=(s l).rows.length:=λk l h1 h2 h3=>KN hc hI.quiet hI.dn h1 h2 h3
  have ja:∀k l,c<=k->k<=l->l<=d->∀r,r<(s k).rows.length->(s l).rows.getD r none=(s k).rows.getD r none:=λk l h1 h2 h3 r hr=>KO hc hI.quiet hI.dn h1 h2 h3 hr
  have BW:∀n,c+n<=d->∀r,r<(s i).rows.length->∀row,kL s dr c n r=some row->(s i).rows.getD r none=some row:=by
   intro n
   induction n with
   |zero=>
    intro _ r hr row h
    simp only[kL]at h
    by_cases WE:r<(s c).rows.length
    ·rw[ja c i (aO _) pU (by omega) r WE];exact h
    ·simp only[aK,aM (show(s c).rows.length<=r by omega)]at h;cases h
   |succ n ih=>
    intro hn r hr row h
    simp only[kL]at h
    split at h
    ·rename_i g
     obtain⟨g1,g2,g3⟩:=g
     have WG:c+n<i:=by
      by_cases nb:c+n<i
      ·exact nb
      ·by_cases e':c+n=i
       ·rw[e',h0]at g1;cases g1
       ·have:=hlen i (c+n) pU (by omega) (by omega);omega
     rw[ja (c+n+1) i (by omega) (by omega) (by omega) r g3];exact h
    ·exact ih (by omega) r hr row h
  have BX:∀n,c+n<=d->∀r,(s i).rows.length<=r->r<(s (i+1)).rows.length->kL s dr c n r=none:=by
   intro n
   induction n with
   |zero=>
    intro _ r h1 h2
    have:=hlen c i (aO _) pU (by omega)
    simp only[kL,aK,aM (show(s c).rows.length<=r by omega),Option.getD_none]
   |succ n ih=>
    intro hn r h1 h2
    simp only[kL]
    rw[if_neg]
    ·exact ih (by omega) r h1 h2
    ·rintro⟨g1,g2,g3⟩
     by_cases e':c+n=i
     ·rw[e',h0]at g1;cases g1
     ·by_cases nb:c+n<i
      ·have:=hlen (c+n+1) i (by omega) (by omega) (by omega);omega
      ·have:=hlen (i+1) (c+n) (by omega) (by omega) (by omega);omega
  have jm:cx.base<=w.heap.size:=by rw[oi.cg.base];exact Nat.le_trans hI.gh oi.fr.size
  have pn:mV cx (s i).rows:=λr row ao g1 g2=>by
   have hr:r<(s i).rows.length:=by
    by_cases h:r<(s i).rows.length
    ·exact h
    ·simp only[aK,aM (show(s i).rows.length<=r by omega)]at g2;cases g2
   rw[hR]at g1
   have:=BW (d-c) (by omega) r hr row g1
   rw[this]at g2;exact Option.some.inj g2
  have fin:∀v w' c',KM cx w (s i).rows (s (i+1)).rows c' w'->Rep c' w' (val i) v->K (a.put o.dst v) w':=by
   intro v w' c' hn hv
   refine hK _ w' c d ⟨hI.cd,hI.dn,λk hk=>by rw[h2 k (by omega)];exact hI.pre k hk,λk hk=>by rw[h2 k (by omega)];exact hI.post k hk,hI.quiet,hI.wr,ug,?_,?_,hI.gh,hI.gy,c',hn.mem,λr=>?_,λt=>?_,oi.step (ks:=[]) (λk hk=>by simp[cf]at hk) hI.gy hn.toW.toK⟩
   ·cases hd:o.dst<;>simp[Act.put]<;>exact hI.size
   ·first|exact mo.put (hI.defers.step hm hn.fr)|exact mo.put (hI.defers.step hm hn.toW.fr)
   ·rw[hn.rows,hR,WC pU h0 h1 h2 (d:=d) (λk om rW=>hlen (i+1) k (by omega) (by omega) (by omega)) (by omega) (by omega)]
   ·have hl:∀k o',i<k->dr k=true->ops[k]?=some o'->o'.dst=some t->o.dst=some t->False:=by
     intro k o' oj hk dz WH WI
     rcases(Nu mU oj ho dz).1 with uh|hb
     ·exact(Gx uh).1 WI WH
     ·have:=oh _ _ hk hb
      rw[h0]at this;cases this
    rw[WB ho pU h0 h1 h2 hl (by omega)]
    have hold:=Ax hn.cg (hE t)
    cases hd:o.dst with
    |none=>simpa[Act.put,hd]using hold
    |some u=>
     have hu:=hc.dst i o u ho hd
     simp only[Act.put,Option.some.injEq]
     by_cases e':u=t
     ·subst e'
      have nb:u<a.tmps.size:=Nat.lt_of_lt_of_le hu hI.size
      rw[if_pos rfl]
      simpa[aP,nb]using hv
     ·rw[if_neg e']
      simpa[aQ e']using hold
  have skip:val i=.dt []->(s (i+1)).rows=(s i).rows->K (a.put o.dst undef) w:=λe1 e2=>
   fin undef w cx ⟨hm,jn.refl _ _,Fr.refl _ _,λb hb=>.inl hb,λr=>by rw[e2,if_neg (by omega)],λ_ _=>⟨rfl,Iff.rfl⟩,λr g1 g2=>by rw[e2]at g2;omega⟩ (by rw[e1];exact SV _ _)
  have run:pT P G M o (cb (s i).env) (s i).rows (ks i) (val i) (s (i+1)).rows->o.nw P a w K Q:=λhX=>by
   unfold pT at hX
   rw[Nx]at hX
   refine hX.2.2 cx w a hm jm pn (λr g1 g2=>by rw[hR];exact BX (d-c) (by omega) r g1 g2) (λx hx=>?_) K Q fin
   cases x with
   |tmp t=>
    refine Ny t ?_
    unfold Oper.looksAt
    exact List.mem_append_left _ (List.mem_filterMap.2 ⟨.tmp t,by simpa using hx,rfl⟩)
   |const v=>
    simp only[cb,Act.eval]
    cases hv:Gy v with
    |none=>trivial
    |some d=>exact Nz hv cx w
   |global g=>trivial
   |func f=>exact KP f
  have hG:=hc.op i o ho
  unfold wpOp
  simp only[ho]
  unfold nE at hG
  cases hg:o.guard with
  |none=>
   simp only[hg]at hG
   have hw:Region.wanted o (yielded ops a.tmps)=true:=by simp[Region.wanted,hg]
   rw[if_pos hw]
   exact run hG
  |some jw=>
   obtain⟨j,want⟩:=jw
   simp only[hg]at hG
   obtain⟨g,g2,hG⟩:=hG
   have hr:=Ny g (by
    unfold Oper.looksAt
    refine List.mem_append_right _ ?_
    simp only[hg,g2];simp)
   rcases hG with⟨b,g3,g4⟩|⟨g3,_,e1,e2⟩
   rotate_left
   ·rw[g3]at hr
    rw[if_neg (by rw[SW (o:=o) hg g2 hr];simp)]
    exact skip e1 e2
   rw[g3]at hr
   have hw:=SX (o:=o) hg g2 hr
   by_cases e':b=want
   ·rw[if_pos e']at g4
    rw[if_pos (by rw[hw];simpa using e')]
    exact run g4
   ·rw[if_neg e']at g4
    rw[if_neg (by rw[hw];simpa using e')]
    exact skip g4.2.1 g4.2.2
end
def nc(dr:Nat->Bool):Nat->Nat
 |0=>0
 |n+1=>(if dr n=true then 0 else 1)+nc dr n
theorem WJ(dr:Nat->Bool):∀n,nc dr n<=n
 |0=>aO _
 |n+1=>by have:=WJ dr n;simp only[nc];split<;>omega
theorem WK{dr:Nat->Bool}:∀{n:Nat},nc dr n=0->∀i,i<n->dr i=true
 |n +1,h,i,hi=>by
  simp only[nc]at h
  by_cases e:i=n
  ·subst e
   cases hl:dr i with
   |true=>rfl
   |false=>rw[hl]at h;simp at h
  ·exact WK (n:=n) (by omega) i (by omega)
theorem Zq8{dr gk:Nat->Bool}:∀{n:Nat},(∀i,i<n->gk i=dr i)->nc gk n=nc dr n
 |0,_=>rfl
 |n+1,h=>by simp only[nc,h n (by omega),Zq8 (n:=n) (λi hi=>h i (by omega))]
theorem WL{dr gk:Nat->Bool}{i:Nat}(h0:dr i=false)(h1:gk i=true)(h2:∀k,k≠i->gk k=dr k):∀{n:Nat},i<n->nc gk n+1=nc dr n
 |n +1,h=>by
  simp only[nc]
  by_cases e:i=n
  ·subst e
   rw[Zq8 (dr:=dr) (gk:=gk) (λk hk=>h2 k (by omega)),h0,h1]
   simp;omega
  ·rw[h2 n (λe'=>e e'.symm)]
   have:=WL h0 h1 h2 (n:=n) (by omega)
   omega
set_option linter.unusedSectionVars false
section
variable {P:Program} {G:List bf} {N M:Nat} {ops:Array Oper} {s:Nat->St} {ks:Nat->List Nat} {val:Nat->D} (hc:Chain P G N M ops s ks val) (mU:Is G ops=true)
include hc mU
theorem Zp1(hI:Inv P G N M ops s val c0 w0 dr a w c d)(iU:∀i,i<ops.size->dr i=true):∃cx,fw N M c0 w0 cx w (s ops.size) a:=by
 obtain⟨cx,hm,hR,hE,oi⟩:=hI.ctx
 have hd:d=ops.size:=by
  by_cases h:d<ops.size
  ·have:=iU d h
   rw[hI.post d (aO _)]at this;cases this
  ·have:=hI.dn;omega
 subst hd
 have WM:=hI.cd
 have hl:∀k,k<ops.size-c->dr (c+k)=true:=λk hk=>iU _ (by omega)
 refine⟨cx,hm,λr=>?_,λt=>?_,hI.size,hI.defers,hI.gh,hI.gy,oi⟩
 ·rw[hR,SO hc hI.quiet hI.dn (by omega) hl,show c+(ops.size-c)=ops.size by omega]
 ·have:=hE t
  rw[SN hc hI.quiet hI.dn (by omega) hl]at this
  rwa [show c+(ops.size-c)=ops.size by omega]at this
theorem qH{Q:Exit->Act->World->Prop}(hQ:∀c w a,fw N M c0 w0 c w (s ops.size) a->Q .normal a w):∀(fuel:Nat) (listed:Array Bool) (a:Act) (w:World) (c d:Nat),listed.size=ops.size->nc (λi=>listed.getD i false) ops.size<=fuel->
 Inv P G N M ops s val c0 w0 (λi=>listed.getD i false) a w c d->Ix P .any ops Q fuel listed a w:=by
 intro fuel
 have By:∀(listed:Array Bool) (i:Nat),listed.size=ops.size->(i∈Region.ready .any ops listed↔ ∃o,ops[i]?=some o/\listed.getD i false=false/\∀e∈o.after,Region.binds .any e=true->listed.getD e.on false=true):=by
  intro listed i fy
  unfold Region.ready
  rw[List.mem_filter,List.mem_range]
  constructor
  ·rintro⟨h1,h2⟩
   have ho:ops[i]?=some ops[i]:=aJ h1
   simp only[ho,aR,aG,aE,aS]at h2
   refine⟨_,ho,?_,λe he hb=>?_⟩
   ·have hl:i<listed.size:=by omega
    have:=h2.1
    simpa[aP,hl]using this
   ·have:=Array.all_eq_true'.1 h2.2 e he
    simpa[hb]using this
  ·rintro⟨o,ho,h1,h2⟩
   have bz:=(Array.getElem?_eq_some_iff.1 ho).1
   refine⟨bz,?_⟩
   simp only[ho,aR,aG,aE,aS]
   have hl:i<listed.size:=by omega
   refine⟨by simpa[aP,hl]using h1,Array.all_eq_true'.2 λe he=>?_⟩
   cases hb:Region.binds .any e with
   |false=>rfl
   |true=>simpa[hb]using h2 e he hb
 have ku:∀(listed:Array Bool),listed.size=ops.size->Region.ready .any ops listed=[]->∀i,i<ops.size->listed.getD i false=true:=by
  intro listed fy he i
  induction i using Nat.strongRecOn with
  |_ i ih=>
   intro hi
   cases hl:listed.getD i false with
   |true=>rfl
   |false=>
    exfalso
    have ho:ops[i]?=some ops[i]:=aJ hi
    have:i∈Region.ready .any ops listed:=(By listed i fy).2 ⟨_,ho,hl,λe Av hb=>by
     have:=Znx mU ho e Av hb
     exact ih e.on this (by omega)⟩
    rw[he]at this;cases this
 induction fuel with
 |zero=>
  intro listed a w c d fy BY hI
  have iU:=WK (dr:=λi=>listed.getD i false) (Nat.le_zero.1 BY)
  refine⟨?_,?_⟩
  ·rw[List.eq_nil_iff_forall_not_mem]
   intro i hi
   obtain⟨o,ho,h1,_⟩:=(By listed i fy).1 hi
   have:=iU i (Array.getElem?_eq_some_iff.1 ho).1
   rw[h1]at this;cases this
  ·obtain⟨cx,hs⟩:=Zp1 hc mU hI iU
   exact hQ cx w a hs
 |succ fuel ih=>
  intro listed a w c d fy BY hI
  refine⟨λhe=>?_,λi hi=>?_⟩
  ·obtain⟨cx,hs⟩:=Zp1 hc mU hI (ku listed fy he)
   exact hQ cx w a hs
  ·obtain⟨o,ho,h1,h2⟩:=(By listed i fy).1 hi
   have bz:=(Array.getElem?_eq_some_iff.1 ho).1
   have sH:(listed.setIfInBounds i true).getD i false=true:=by
    have hl:i<listed.size:=by omega
    simp[aP,hl]
   have sI:∀k,k≠i->(listed.setIfInBounds i true).getD k false=listed.getD k false:=λk hk=>by
    rw[aF,aQ (Ne.symm hk),<-aF]
   refine vG hc mU (gk:=λk=>(listed.setIfInBounds i true).getD k false) hI ho h1 sH sI h2 λa' w' c' d' WN=>?_
   refine ih _ a' w' c' d' (by simpa using fy) ?_ WN
   have:=WL (dr:=λk=>listed.getD k false) (gk:=λk=>(listed.setIfInBounds i true).getD k false) h1 sH sI bz
   omega
end
theorem fw.drew{c:Ctx}{st:St}(h:fw N M c0 w0 c w st a):fw N M c0 w0 c w.drew st a:=
 ⟨KQ h.mem,h.rows,λt=>Ax (NA c w) (h.env t),h.size,h.defers,h.gh,h.gy,h.reach.step (ks:=[]) (λk hk=>by simp[cf]at hk) h.gy
  (lY.toK ⟨KQ h.mem,NA c w,⟨rfl,rfl,rfl,aO _,λ_ _ _=>rfl⟩,λb hb=>.inl hb,λr row hr v=>.inl ⟨⟨row,hr⟩,v,rfl⟩⟩)⟩
theorem za(hm:P.follows .mixedOrders=true):∀(ro:Option Nat) (T:iM) (G:List bf) (N M id:Nat) (ops:Array Oper) (st:St) (Q:Ex->St->Prop),jD P T->j5 P G->Is G ops=true->(mn T G N M ops ops.toList st λst=>Q .normal st)->ui ro P N M (.region id ops true) st Q:=by
 intro ro T G N M id ops st Q hT hG hd h c0 w0 c w a hs
 obtain⟨s,ks,val,h1,h2,h3,h4,h5⟩:=Zq5 hT hG ops.toList 0 st (by simp) h
 have hc:Chain P G N M ops s ks val:=⟨λi o ho=>h3 i o (aT _) ho,λi o t ho=>h4 i o t (aT _) ho,λi o t ho=>h5 i o t (aT _) ho⟩
 have hs:=hs.drew
 refine Qut hm ?_
 obtain⟨d,g1,g2,g3,g4⟩:=Nv G ops _ 0 rfl (aT _)
 have hz:∀i,(Array.replicate ops.size false).getD i false=false:=λi=>by
  by_cases h:i<ops.size
  ·simp[aP,h]
  ·simp[aP,h]
 refine qH hc hd (Q:=λe a' w'=>∃ex jx c',nd e=some ex/\Q ex jx/\fw N M c0 w0 c' w' jx a') (λc w a jl=>⟨_,_,c,rfl,by simpa using h2,jl⟩) ops.size _ a _ 0 d (by simp) (WJ _ _)
  ⟨g1,g2,λi hi=>by omega,λi _=>hz i,g3,g4,λj hj=>by simp[hz]at hj,hs.size,hs.defers,hs.gh,hs.gy,c,hs.mem,λr=>?_,λt=>?_,hs.reach⟩
 ·rw[SQ (λi _=>hz _),h1];exact hs.rows r
 ·rw[SP (λi _=>hz _),h1];exact hs.env t
