import Derived.Test.YtaemmjbkndlkeaaGreatMigrateOrdersFt
open List renaming drop_eq_nil_of_le->aN,drop_eq_getElem_cons->aO,foldl_cons->aP,getD->aV,getElem?_eq_none->aJ
open Array renaming getD_eq_getD_getElem?->aQ,foldl_toList->aS,getElem?_eq_getElem->aU,getD->aY,getElem?_setIfInBounds_ne->aZ
open Option renaming getD_some->aR,bind_some->aW,map_some->bA
open Bool renaming or_eq_true->aT,false_eq_true->aA,not_eq_true'->bB
open Nat renaming le_refl->aX,zero_le->bC
set_option linter.all false
namespace Go.GD
open Go
variable {G:List ba}{M N c d i j k l r:Nat}{P:Program}{R R':Rows}{a:Act}{c0:Ctx}{dt:Nat->Bool}{o x y:Oper}{ops:Array Oper}{w w0:World}
structure Chain(P:Program)(G:List ba)(N M:Nat)(ops:Array Oper)(s:Nat->St)(ks:Nat->List Nat)(val:Nat->D):Prop where
 op:∀(i:Nat) (o:Oper),ops[i]?=some o->nD P G M ops o (s i).env (s i).rows (ks i) (val i) (s (i+1)).rows
 env:∀(i:Nat) (o:Oper) (t:Nat),ops[i]?=some o->look (s (i+1)).env t=if o.dst=some t then val i else look (r6 (ks i) (s i).env) t
 dst:∀(i:Nat) (o:Oper) (t:Nat),ops[i]?=some o->o.dst=some t->t<N
theorem Zpl{P:Program}{T:iu}(hT:jg P T){G:List ba}(hG:jA P G){N M:Nat}{ops:Array Oper}{K:St->Prop}:∀(l:List Oper) (k:Nat) (st:St),ops.toList.drop k=l->mb T G N M ops l st K->
 ∃ (s:Nat->St) (ks:Nat->List Nat) (val:Nat->D),s k=st/\K (s (k+l.length))/\(∀(i:Nat) (o:Oper),k<=i->ops[i]?=some o->nD P G M ops o (s i).env (s i).rows (ks i) (val i) (s (i+1)).rows)/\
  (∀(i:Nat) (o:Oper) (t:Nat),k<=i->ops[i]?=some o->look (s (i+1)).env t=if o.dst=some t then val i else look (r6 (ks i) (s i).env) t)/\(∀(i:Nat) (o:Oper) (t:Nat),k<=i->ops[i]?=some o->o.dst=some t->t<N)
 |[],k,st,hk,h=>by
  have hlen:ops.size<=k:=by
   have:=congrArg List.length hk
   simp at this;omega
  have no:∀(i:Nat) (o:Oper),k<=i->ops[i]?=some o->False:=λi o hi ho=>by
   have:=(Array.getElem?_eq_some_iff.1 ho).1;omega
  exact⟨λ_=>st,λ_=>[],λ_=>.dead,rfl,h,λi o hi ho=>(no i o hi ho).elim,λi o t hi ho=>(no i o hi ho).elim,λi o t hi ho=>(no i o hi ho).elim⟩
 |o ::l,k,st,hk,h=>by
  have bd:k<ops.toList.length:=by
   by_cases bd:k<ops.toList.length
   ·exact bd
   ·rw[aN (by omega)]at hk;cases hk
  rw[aO bd]at hk
  have ho:ops[k]?=some o:=by
   have:=(List.cons.inj hk).1
   rw[<-this]
   simp at bd
   simp[bd]
  obtain⟨kk,v,R',iE,h1,h2,h3,h4⟩:=V6 hT hG h
  obtain⟨s,ks,val,g1,g2,g3,g4,g5⟩:=Zpl hT hG l (k+1) _ (List.cons.inj hk).2 h4
  refine⟨λi=>if i=k then st else s i,λi=>if i=k then kk else ks i,λi=>if i=k then v else val i,by simp,?_,λi p hi hp=>?_,λi p t hi hp=>?_,λi p t hi hp hd=>?_⟩
  ·simp only[List.length_cons]
   rw[if_neg (by omega),show k+(l.length+1)=k+1+l.length by omega]
   exact g2
  ·by_cases e:i=k
   ·subst e
    rw[ho]at hp;cases hp
    simp only[if_true,show¬i+1=i by omega,if_false,g1]
    exact h3
   ·simp only[if_neg e,if_neg (show¬i+1=k by omega)]
    exact g3 i p (by omega) hp
  ·by_cases e:i=k
   ·subst e
    rw[ho]at hp;cases hp
    simp only[if_true,show¬i+1=i by omega,if_false,g1]
    cases tS:o.dst with
    |none=>simp[r7,h1]
    |some u=>simp only[r7,AT,Option.some.injEq,h1]
   ·simp only[if_neg e,if_neg (show¬i+1=k by omega)]
    exact g4 i p t (by omega) hp
  ·by_cases e:i=k
   ·subst e
    rw[ho]at hp;cases hp
    exact h2 t hd
   ·exact g5 i p t (by omega) hp hd
theorem Z7z(ops:Array Oper): ∀(l:List Oper) (acc:Array Nat),(∀k,acc.size<=k-> ∀i,(acc.getD k 0).testBit i=false)->
    ∀(ar:Nat->Prop),(∀(j:Nat) (hj:j<acc.size) (i:Nat),(∀o,ops[j]? =some o-> ∀e∈o.after,Region.binds .any e=true->ar e.on)->(acc.getD j 0).testBit i=true->ar i)->
    (∀j,ar j-> ∀o,ops[j]? =some o-> ∀e∈o.after,Region.binds .any e=true->ar e.on)->ops.toList.drop acc.size=l->
    ∀ (j i:Nat),(∀o,ops[j]? =some o-> ∀e∈o.after,Region.binds .any e=true->ar e.on)->
      ((l.foldl (λ(acc:Array Nat) o=>acc.push (o.after.foldl (λs e=>if Region.binds .any e then s|||2^e.on|||acc.getD e.on 0 else s) 0)) acc).getD j 0).testBit i=true->ar i
  | [],acc,hz,ar,Et,jm,hl,j,i,hj,h=>by
    simp only[List.foldl_nil]at h
    by_cases bd:j<acc.size
    . exact Et j bd i hj h
    . rw[hz j (by omega) i]at h;cases h
  | o :: l, acc,hz,ar,Et,jm,hl,j,i,hj,h=>by
    simp only[aP]at h
    have bd:acc.size<ops.toList.length:=by
      by_cases bd:acc.size<ops.toList.length
      . exact bd
      . rw[aN (by omega)]at hl;cases hl
    rw[aO bd]at hl
    have ho:ops[acc.size]? =some o:=by
      rw[<-(List.cons.inj hl).1]
      simp at bd
      simp [bd]
    refine Z7z ops l _ (λk hk i=> ?_) ar (λk hk i we hb=> ?_) jm (by simpa using(List.cons.inj hl).2) j i hj h
    . simp at hk
      rw[aQ,Array.getElem?_eq_none (by simp;omega)]
      simp
    . simp only [Array.size_push]at hk
      by_cases e:k=acc.size
      . subst e
        rw[aQ,Array.getElem?_push_size,aR]at hb
        have iM:=we o ho
        rw[<-aS]at hb
        have fold: ∀(es:List Edge) (s0:Nat),(∀e∈es,Region.binds .any e=true->ar e.on)->(s0.testBit i=true->ar i)->(es.foldl (λs e=>if Region.binds .any e then s|||2^e.on|||acc.getD e.on 0 else s) s0).testBit i=true->ar i:=by
          intro es
          induction es with
          |nil=>intro s0 _ h0 hb;exact h0 hb
          | cons e es ih=>
            intro s0 he h0 hb
            simp only[aP]at hb
            refine ih _ (λe' Aa=>he e' (by simp [Aa])) (λhs=> ?_) hb
            split at hs
            . rename_i M9
              have hle:=he e (by simp) M9
              simp only[Nat.testBit_or,aT,Nat.testBit_two_pow,decide_eq_true_eq]at hs
              rcases hs with(hs|hs)|hs
              . exact h0 hs
              . rw[<-hs];exact hle
              . by_cases bd:e.on<acc.size
                . exact Et e.on bd i (jm e.on hle) hs
                . rw[hz e.on (by omega) i]at hs;cases hs
            . exact h0 hs
        exact fold o.after.toList 0 (λe he hb=>iM e (by simpa using he) hb) (by simp) hb
      . have mQ:k<acc.size:=by omega
        rw[aQ,Array.getElem?_push_lt mQ,<-aU mQ,<-aQ]at hb
        exact Et k mQ i we hb
theorem Sw{ar:Nat->Prop}(jm:∀j,ar j->∀o,ops[j]?=some o->∀e∈o.after,Region.binds .any e=true->ar e.on)
 (hj:∀o,ops[j]?=some o->∀e∈o.after,Region.binds .any e=true->ar e.on) (h:((Region.before ops).getD j 0).testBit i=true):ar i:=by
 refine Z7z ops ops.toList #[] (λk _ i=>by simp) ar (λj hj=>by simp at hj) jm (by simp) j i hj ?_
 have:Region.before ops=ops.toList.foldl (λ(acc:Array Nat) o=>acc.push (o.after.foldl (λs e=>if Region.binds .any e then s|||2^e.on|||acc.getD e.on 0 else s) 0)) #[]:=by
  unfold Region.before
  rw[<-aS]
 rw[<-this];exact h
theorem Na(h:H5 G ops=true)(Kh:i<j)(hx:ops[i]?=some x)(hy:ops[j]?=some y):
 (x.apart ops y=true\/((Region.before ops).getD j 0).testBit i=true)/\((lh G x.op=true/\lh G y.op=true)\/((Region.before ops).getD j 0).testBit i=true):=by
 have hj:=(Array.getElem?_eq_some_iff.1 hy).1
 have h1:=List.all_eq_true.1 h j (List.mem_range.2 hj)
 simp only[aE]at h1
 have h2:=List.all_eq_true.1 h1.2 i (List.mem_range.2 Kh)
 unfold BC at h2
 simp only[hx,hy,aE,aT]at h2
 exact h2
theorem Zml(h:H5 G ops=true)(hy:ops[j]?=some y):∀e∈y.after,Region.binds .any e=true->e.on<j:=by
 have hj:=(Array.getElem?_eq_some_iff.1 hy).1
 have h1:=List.all_eq_true.1 h j (List.mem_range.2 hj)
 simp only[aE,hy]at h1
 intro e he hb
 have:=Array.all_eq_true'.1 h1.1 e he
 simp only[hb,Bool.not_true,Bool.false_or]at this
 exact lE this
theorem V7{o:Op}(h:lh G o=true):r8 G o=false:=by
 simpa[lh]using h
theorem V8{env:List (Nat×D)}{ks:List Nat}{v:D}(h:nD P G M ops o env R ks v R')(hq:lh G o.op=true):ks=[]/\∃news,R'=R++news:=by
 have one:pH P G M o (cj env) R ks v R'->ks=[]/\∃news,R'=R++news:=λh=>by
  unfold pH at h
  rw[V7 hq]at h
  exact⟨h.1,h.2.1⟩
 unfold nD at h
 split at h
 ·exact one h
 ·obtain⟨g,_,⟨b,_,h⟩|⟨_,h⟩⟩:=h
  ·split at h
   ·exact one h
   ·exact⟨h.1,[],by rw[h.2.2];simp⟩
  ·exact⟨h.1,[],by rw[h.2.2];simp⟩
def jb(ops:Array Oper)(s:Nat->St)(val:Nat->D)(dt:Nat->Bool)(c:Nat):Nat->Nat->D
 |0,t=>look (s c).env t
 |n+1,t=>if dt (c+n)=true/\(ops[c+n]?).bind (·.dst)=some t then val (c+n)else jb ops s val dt c n t
def ky(s:Nat->St)(dt:Nat->Bool)(c:Nat):Nat->Nat->Option Row
 |0,r=>(s c).rows.getD r none
 |n+1,r=>if dt (c+n)=true/\(s (c+n)).rows.length<=r/\r<(s (c+n+1)).rows.length then(s (c+n+1)).rows.getD r none else ky s dt c n r
theorem Chain.Eu{s:Nat->St}{ks:Nat->List Nat}{val:Nat->D}(hc:Chain P G N M ops s ks val)(ho:ops[i]?=some o)(hq:lh G o.op=true)(t:Nat):look (s (i+1)).env t=if o.dst=some t then val i else look (s i).env t:=by
 rw[hc.env i o t ho,(V8 (hc.op i o ho) hq).1,oK]
theorem Ev.toW{c c':Ctx}{w w':World}(hs:Ev c w R R' c' w'):lT c w c' w':=
 ⟨hs.mem,hs.cy,hs.fr.mono (λb _ hf=>hf.elim),hs.fe,λr ao pI hv=>by
  by_cases h1:R.length<=r/\r<R'.length
  ·exact .inr (hs.new r h1.1 h1.2 hv)
  ·rw[hs.rows,if_neg h1]at pI
   obtain⟨h2,h3⟩:=hs.jD r (by omega)
   exact .inl ⟨⟨_,pI⟩,λe=>hv (h3.2 e),h2⟩⟩
theorem Qps{R news:Rows}(h:r<R.length):(R++news).getD r none=R.getD r none:=by
 simp[aV,List.getElem?_append_left h]
section
variable {P:Program} {G:List ba} {N M:Nat} {ops:Array Oper} {s:Nat->St} {ks:Nat->List Nat} {val:Nat->D} (hc:Chain P G N M ops s ks val) (me:H5 G ops=true)
include hc
theorem Z8(hq:∀(i:Nat) (o:Oper),c<=i->i<d->ops[i]?=some o->lh G o.op=true)(hd:d<=ops.size)(hk:c<=k):∀{l:Nat},k<=l->l<=d->∃news,(s l).rows=(s k).rows++news:=by
 intro l hl
 induction l with
 |zero=>intro _;exact⟨[],by rw[show k=0 by omega];simp⟩
 |succ l ih=>
  intro DH
  by_cases e:k=l+1
  ·exact⟨[],by rw[e];simp⟩
  ·obtain⟨n1,h1⟩:=ih (by omega) (by omega)
   have ho:ops[l]?=some ops[l]:=aU (by omega)
   obtain⟨_,n2,h2⟩:=V8 (hc.op l _ ho) (hq l _ (by omega) (by omega) ho)
   exact⟨n1++n2,by rw[h2,h1,List.append_assoc]⟩
theorem Kk(hq:∀(i:Nat) (o:Oper),c<=i->i<d->ops[i]?=some o->lh G o.op=true)(hd:d<=ops.size)(hk:c<=k)(hl:k<=l)(DH:l<=d):(s k).rows.length<=(s l).rows.length:=by
 obtain⟨n,h⟩:=Z8 hc hq hd hk hl DH
 rw[h];simp
theorem Kl(hq:∀(i:Nat) (o:Oper),c<=i->i<d->ops[i]?=some o->lh G o.op=true)(hd:d<=ops.size)(hk:c<=k)(hl:k<=l)(DH:l<=d)(hr:r<(s k).rows.length):(s l).rows.getD r none=(s k).rows.getD r none:=by
 obtain⟨n,h⟩:=Z8 hc hq hd hk hl DH
 rw[h,Qps hr]
theorem Sx{dt:Nat->Bool}{c d:Nat}(hq:∀(i:Nat) (o:Oper),c<=i->i<d->ops[i]?=some o->lh G o.op=true)(hd:d<=ops.size):∀{n:Nat},c+n<=d->(∀i,i<n->dt (c+i)=true)->∀t,jb ops s val dt c n t=look (s (c+n)).env t
 |0,_,_,t=>rfl
 |n+1,hn,hl,t=>by
  have ho:ops[c+n]?=some ops[c+n]:=aU (by omega)
  simp only[jb,hl n (by omega),true_and,ho,aW]
  rw[show c+(n+1)=(c+n)+1 by omega,hc.Eu ho (hq _ _ (by omega) (by omega) ho) t]
  split
  ·rfl
  ·exact Sx hq hd (by omega) (λi hi=>hl i (by omega)) t
theorem Sy{dt:Nat->Bool}{c d:Nat}(hq:∀(i:Nat) (o:Oper),c<=i->i<d->ops[i]?=some o->lh G o.op=true)(hd:d<=ops.size):∀{n:Nat},c+n<=d->(∀i,i<n->dt (c+i)=true)->∀r,ky s dt c n r=(s (c+n)).rows.getD r none
 |0,_,_,r=>rfl
 |n + 1,hn,hl,r=>by
  simp only[ky,hl n (by omega),true_and]
  rw[show c+(n+1)=c+n+1 by omega]
  split
  ·rfl
  ·rename_i h1
   rw[Sy hq hd (by omega) (λi hi=>hl i (by omega)) r]
   by_cases h2:r<(s (c+n)).rows.length
   ·exact(Kl hc hq hd (by omega) (by omega) (by omega) h2).symm
   ·have hlen:=Kk hc hq hd (show c<=c+n by omega) (show c+n<=c+n+1 by omega) (by omega)
    simp only[aV]
    rw[aJ (by omega),aJ (by omega)]
end
theorem Sz{ops:Array Oper}{s:Nat->St}{val:Nat->D}{dt:Nat->Bool}{c:Nat}:∀{n:Nat},(∀i,i<n->dt (c+i)=false)->∀t,jb ops s val dt c n t=look (s c).env t
 |0,_,t=>rfl
 |n+1,hl,t=>by
  simp only[jb,hl n (by omega),aA,false_and,if_false]
  exact Sz (λi hi=>hl i (by omega)) t
theorem SA{s:Nat->St}{dt:Nat->Bool}{c:Nat}:∀{n:Nat},(∀i,i<n->dt (c+i)=false)->∀r,ky s dt c n r=(s c).rows.getD r none
 |0,_,r=>rfl
 |n+1,hl,r=>by
  simp only[ky,hl n (by omega),aA,false_and,if_false]
  exact SA (λi hi=>hl i (by omega)) r
theorem SB{ops:Array Oper}{s:Nat->St}{val:Nat->D}{dt ga:Nat->Bool}{c:Nat}:∀{n:Nat},(∀i,i<n->ga (c+i)=dt (c+i))->∀t,jb ops s val ga c n t=jb ops s val dt c n t
 |0,_,t=>rfl
 |n+1,hl,t=>by simp only[jb,hl n (by omega),SB (n:=n) (λi hi=>hl i (by omega)) t]
theorem SC{s:Nat->St}{dt ga:Nat->Bool}{c:Nat}:∀{n:Nat},(∀i,i<n->ga (c+i)=dt (c+i))->∀r,ky s ga c n r=ky s dt c n r
 |0,_,r=>rfl
 |n+1,hl,r=>by simp only[ky,hl n (by omega),SC (n:=n) (λi hi=>hl i (by omega)) r]
theorem V9{ops:Array Oper}{s:Nat->St}{val:Nat->D}{dt ga:Nat->Bool}{c i:Nat}{o:Oper}(ho:ops[i]? =some o)(pJ:c<=i)(h0:dt i=false)(h1:ga i=true)(h2: ∀k,k≠i->ga k=dt k){t:Nat}
    (r9: ∀k o',i<k->dt k=true->ops[k]? =some o'->o'.dst=some t->o.dst=some t->False): ∀{n:Nat},i<c+n->jb ops s val ga c n t=if o.dst=some t then val i else jb ops s val dt c n t
  |0,h=>by omega
  | n + 1,h=>by
    by_cases e:i=c+n
    . simp only[jb,<-e,h0,h1,ho,aW,true_and,aA,false_and,if_false]
      split
      . rfl
      . exact SB (λk hk=>h2 _ (by omega)) t
    . simp only[jb,h2 (c+n) (λe'=>e e'.symm)]
      rw[V9 ho pJ h0 h1 h2 r9 (n:=n) (by omega)]
      by_cases g:dt (c+n)=true/\(ops[c+n]?).bind (·.dst)=some t
      . by_cases hd:o.dst=some t
        . exfalso
          obtain⟨g1,g2⟩:=g
          cases hk:ops[c+n]? with
          |none=>rw[hk]at g2;cases g2
          | some o'=>
            rw[hk]at g2
            exact r9 (c+n) o' (by omega) g1 hk g2 hd
        . rw[if_pos g,if_neg hd,if_pos g]
      . rw[if_neg g,if_neg g]
theorem Wa{s:Nat->St}{dt ga:Nat->Bool}{c i:Nat}(pJ:c<=i)(h0:dt i=false)(h1:ga i=true)(h2:∀k,k≠i->ga k=dt k){r d:Nat}
 (hlen:∀k,i<k->k<d->(s (i+1)).rows.length<=(s k).rows.length):∀{n:Nat},i<c+n->c+n<=d->ky s ga c n r=if(s i).rows.length<=r/\r<(s (i+1)).rows.length then(s (i+1)).rows.getD r none else ky s dt c n r
 |0,h,_=>by omega
 |n +1,h,hn=>by
  by_cases e:i=c+n
  ·simp only[ky,<-e,h0,h1,true_and,aA,false_and,if_false]
   split
   ·rfl
   ·exact SC (λk hk=>h2 _ (by omega)) r
  ·simp only[ky,h2 (c+n) (λe'=>e e'.symm)]
   rw[Wa pJ h0 h1 h2 hlen (n:=n) (by omega) (by omega)]
   have:=hlen (c+n) (by omega) (by omega)
   by_cases g:dt (c+n)=true/\(s (c+n)).rows.length<=r/\r<(s (c+n+1)).rows.length
   ·rw[if_pos g,if_neg (by omega),if_pos g]
   ·rw[if_neg g,if_neg g]
theorem Gp(h:x.apart ops y=true){t:Nat}:(x.dst=some t->y.dst≠some t)/\(x.dst=some t->t∉y.looksAt ops)/\(y.dst=some t->t∉x.looksAt ops):=by
 obtain⟨h1,h2,h3⟩:=Oper.apart_spec h
 exact⟨λe=>h2 t e,λe=>h1 t e,λe=>h3 t e⟩
structure Inv(P:Program)(G:List ba)(N M:Nat)(ops:Array Oper)(s:Nat->St)(val:Nat->D)(c0:Ctx)(w0:World)(dt:Nat->Bool)(a:Act)(w:World)(c d:Nat):Prop where
 cd:c<=d
 dn:d<=ops.size
 pre:∀i,i<c->dt i=true
 post:∀i,d<=i->dt i=false
 quiet:∀(i:Nat) (o:Oper),c<=i->i<d->ops[i]?=some o->lh G o.op=true
 wr:∀(o:Oper),ops[d]?=some o->lh G o.op=false
 closed:∀j,dt j=true->∀(o:Oper),ops[j]?=some o->∀e∈o.after,Region.binds .any e=true->dt e.on=true
 size:N<=a.tmps.size
 defers:mf w0.heap.size w a.defers
 fw:c0.base<=w0.heap.size
 gr:∀r row,c0.R r=some row->r<M
 ctx:∃cx,Mem cx w/\(∀r,cx.R r=ky s dt c (d-c) r)/\(∀t,Rep cx w (jb ops s val dt c (d-c) t) (a.tmps.getD t undef))/\Ab c0 w0 cx w
theorem Qk(G:List ba)(ops:Array Oper):∀(n c:Nat),ops.size-c=n->c<=ops.size->∃d,c<=d/\d<=ops.size/\(∀(i:Nat) (o:Oper),c<=i->i<d->ops[i]?=some o->lh G o.op=true)/\(∀(o:Oper),ops[d]?=some o->lh G o.op=false)
 |0,c,h,hc=>⟨c,aX _,hc,λi o h1 h2=>by omega,λo ho=>by
  have:=(Array.getElem?_eq_some_iff.1 ho).1;omega⟩
 |n +1,c,h,hc=>by
  have ho:ops[c]?=some ops[c]:=aU (by omega)
  cases hq:lh G ops[c].op with
  |false=>exact⟨c,aX _,hc,λi o h1 h2=>by omega,λo h'=>by rw[ho]at h';cases h';exact hq⟩
  |true=>
   obtain⟨d,h1,h2,h3,h4⟩:=Qk G ops n (c+1) (by omega) (by omega)
   refine⟨d,by omega,h2,λi o hi hid h'=>?_,h4⟩
   by_cases e:i=c
   ·subst e;rw[ho]at h';cases h';exact hq
   ·exact h3 i o (by omega) hid h'
section
variable {P:Program} {G:List ba} {N M:Nat} {ops:Array Oper} {s:Nat->St} {ks:Nat->List Nat} {val:Nat->D} (hc:Chain P G N M ops s ks val) (me:H5 G ops=true)
include hc me
theorem yF{dt ga:Nat->Bool}(hI:Inv P G N M ops s val c0 w0 dt a w c d)(ho:ops[i]?=some o)(h0:dt i=false)(h1:ga i=true)(h2:∀k,k≠i->ga k=dt k)
 (Nb:∀e∈o.after,Region.binds .any e=true->dt e.on=true) {K:Act->World->Prop} {Q:Exit->Act->World->Prop} (hK:∀a' w' c' d',Inv P G N M ops s val c0 w0 ga a' w' c' d'->K a' w'):wpOp P ops Q i K a w:=by
 have bd:=(Array.getElem?_eq_some_iff.1 ho).1
 have pY:∀k,((Region.before ops).getD i 0).testBit k=true->dt k=true:=λk hk=>
  Sw (ar:=λk=>dt k=true) hI.closed (λo' jn=>by rw[ho]at jn;cases jn;exact Nb) hk
 have oe:∀j k,dt j=true->((Region.before ops).getD j 0).testBit k=true->dt k=true:=λj k hj hk=>
  Sw (ar:=λk=>dt k=true) hI.closed (hI.closed j hj) hk
 have pJ:c<=i:=by
  by_cases h:c<=i
  ·exact h
  ·rw[hI.pre i (by omega)]at h0;cases h0
 have tT:∀j,ga j=true->∀(o:Oper),ops[j]?=some o->∀e∈o.after,Region.binds .any e=true->ga e.on=true:=by
  intro j hj o' jn e he hb
  have gq:dt e.on=true:=by
   by_cases e':j=i
   ·subst e';rw[ho]at jn;cases jn;exact Nb e he hb
   ·rw[h2 j e']at hj;exact hI.closed j hj o' jn e he hb
  rw[h2 e.on (λe'=>by rw[e',h0]at gq;cases gq)]
  exact gq
 have hid:i<=d:=by
  by_cases h:i<=d
  ·exact h
  ·exfalso
   have BD:ops[d]?=some ops[d]:=aU (by omega)
   have:=(Na me (show d<i by omega) BD ho).2
   rcases this with⟨hq,_⟩|hb
   ·rw[hI.wr _ BD]at hq;cases hq
   ·have:=pY d hb
    rw[hI.post d (aX _)]at this;cases this
 obtain⟨cx,hm,hR,hE,og⟩:=hI.ctx
 by_cases e:i=d
 ·
  subst e
  have iM:∀k,k<i-c->dt (c+k)=true:=λk hk=>by
   have dx:ops[c+k]?=some ops[c+k]:=aU (by omega)
   have:=(Na me (show c+k<i by omega) dx ho).2
   rcases this with⟨_,hq⟩|hb
   ·rw[hI.wr _ ho]at hq;cases hq
   ·exact pY _ hb
  have hs:ff N M c0 w0 cx w (s i) a:=by
   refine⟨hm,λr=>?_,λt=>?_,hI.size,hI.defers,hI.fw,hI.gr,og⟩
   ·rw[hR,Sy hc hI.quiet hI.dn (by omega) iM]
    rw[show c+(i-c)=i by omega]
   ·have:=hE t
    rw[Sx hc hI.quiet hI.dn (by omega) iM]at this
    rwa [show c+(i-c)=i by omega]at this
  refine zX ho hs (λ_=>rfl) (λt=>hc.dst i o t ho) (hc.op i o ho) λa' w' c' iS=>?_
  obtain⟨d',g1,g2,g3,g4⟩:=Qk G ops _ (i+1) rfl (by omega)
  have r9:∀k,k<d'-(i+1)->ga (i+1+k)=false:=λk hk=>by
   rw[h2 _ (by omega)];exact hI.post _ (by omega)
  refine hK a' w' (i+1) d' ⟨g1,g2,λk hk=>?_,λk hk=>?_,g3,g4,tT,iS.size,iS.defers,iS.fw,iS.gr,c',iS.mem,λr=>?_,λt=>?_,iS.reach⟩
  ·by_cases e':k=i
   ·rw[e'];exact h1
   ·rw[h2 k e']
    by_cases Wb:k<c
    ·exact hI.pre k Wb
    ·have:=iM (k-c) (by omega)
     rwa [show c+(k-c)=k by omega]at this
  ·rw[h2 k (by omega)];exact hI.post k (by omega)
  ·rw[SA r9];exact iS.rows r
  ·rw[Sz r9,hc.env i o t ho]
   have:=iS.env t
   cases hd:o.dst with
   |none=>simpa[r7,hd]using this
   |some u=>simpa only[r7,hd,AT,Option.some.injEq]using this
 ·
  have H6:i<d:=by omega
  have hq:=hI.quiet i o pJ H6 ho
  have Nc:=V7 hq
  have H7 :∀t∈o.looksAt ops,∀n,c+n<=d->jb ops s val dt c n t=if c+n<=i then look (s (c+n)).env t else look (s i).env t:=by
   intro t ht n
   induction n with
   |zero=>intro _;simp only[jb,Nat.add_zero];rw[if_pos pJ]
   |succ n ih=>
    intro hn
    have H8:=hI.dn
    obtain⟨ok,dx⟩:∃ok,ops[c+n]?=some ok:=⟨_,aU (show c+n<ops.size by omega)⟩
    have ih:=ih (by omega)
    simp only[jb,dx,aW]
    by_cases hk:c+n<i
    ·have hA:c+(n+1)<=i:=by omega
     have SD:c+n<=i:=by omega
     rw[if_pos hA,show c+(n+1)=c+n+1 by omega,hc.Eu dx (hI.quiet _ _ (by omega) (by omega) dx) t]
     rw[if_pos SD]at ih
     by_cases hd:ok.dst=some t
     ·have hl:dt (c+n)=true:=by
       rcases(Na me hk dx ho).1 with tU|hb
       ·exact((Gp tU).2.1 hd ht).elim
       ·exact pY _ hb
      rw[if_pos ⟨hl,hd⟩,if_pos hd]
     ·rw[if_neg (λg=>hd g.2),if_neg hd,ih]
    ·have H9:¬(dt (c+n)=true/\ok.dst=some t):=by
      rintro⟨g1,g2⟩
      by_cases e':c+n=i
      ·rw[e',h0]at g1;cases g1
      ·have oh:i<c+n:=by omega
       rcases(Na me oh ho dx).1 with tU|hb
       ·exact(Gp tU).2.2 g2 ht
       ·have:=oe _ _ g1 hb
        rw[h0]at this;cases this
     have hA:¬c+(n+1)<=i:=by omega
     rw[if_neg H9,ih,if_neg hA]
     split
     ·rw[show c+n=i by omega]
     ·rfl
  have Nd:∀t∈o.looksAt ops,Rep cx w (look (s i).env t) (a.tmps.getD t undef):=λt ht=>by
   have:=hE t
   rw[H7 t ht (d-c) (by omega),if_neg (by omega)]at this
   exact this
  have hlen:∀k l,c<=k->k<=l->l<=d->(s k).rows.length<=(s l).rows.length:=λk l h1 h2 h3=>Kk hc hI.quiet hI.dn h1 h2 h3
  have ir:∀k l,c<=k->k<=l->l<=d->∀r,r<(s k).rows.length->(s l).rows.getD r none=(s k).rows.getD r none:=λk l h1 h2 h3 r hr=>Kl hc hI.quiet hI.dn h1 h2 h3 hr
  have BE:∀n,c+n<=d->∀r,r<(s i).rows.length->∀row,ky s dt c n r=some row->(s i).rows.getD r none=some row:=by
   intro n
   induction n with
   |zero=>
    intro _ r hr row h
    simp only[ky]at h
    by_cases Wc:r<(s c).rows.length
    ·rw[ir c i (aX _) pJ (by omega) r Wc];exact h
    ·simp only[aV,aJ (show(s c).rows.length<=r by omega)]at h;cases h
   |succ n ih=>
    intro hn r hr row h
    simp only[ky]at h
    split at h
    ·rename_i g
     obtain⟨g1,g2,g3⟩:=g
     have Wd:c+n<i:=by
      by_cases mQ:c+n<i
      ·exact mQ
      ·by_cases e':c+n=i
       ·rw[e',h0]at g1;cases g1
       ·have:=hlen i (c+n) pJ (by omega) (by omega);omega
     rw[ir (c+n+1) i (by omega) (by omega) (by omega) r g3];exact h
    ·exact ih (by omega) r hr row h
  have BF:∀n,c+n<=d->∀r,(s i).rows.length<=r->r<(s (i+1)).rows.length->ky s dt c n r=none:=by
   intro n
   induction n with
   |zero=>
    intro _ r h1 h2
    have:=hlen c i (aX _) pJ (by omega)
    simp only[ky,aV,aJ (show(s c).rows.length<=r by omega),Option.getD_none]
   |succ n ih=>
    intro hn r h1 h2
    simp only[ky]
    rw[if_neg]
    ·exact ih (by omega) r h1 h2
    ·rintro⟨g1,g2,g3⟩
     by_cases e':c+n=i
     ·rw[e',h0]at g1;cases g1
     ·by_cases mQ:c+n<i
      ·have:=hlen (c+n+1) i (by omega) (by omega) (by omega);omega
      ·have:=hlen (i+1) (c+n) (by omega) (by omega) (by omega);omega
  have jh:cx.base<=w.heap.size:=by rw[og.cy.base];exact Nat.le_trans hI.fw og.fr.size
  have o5:mn cx (s i).rows:=λr row ao g1 g2=>by
   have hr:r<(s i).rows.length:=by
    by_cases h:r<(s i).rows.length
    ·exact h
    ·simp only[aV,aJ (show(s i).rows.length<=r by omega)]at g2;cases g2
   rw[hR]at g1
   have:=BE (d-c) (by omega) r hr row g1
   rw[this]at g2;exact Option.some.inj g2
  have fin:∀v w' c',Ev cx w (s i).rows (s (i+1)).rows c' w'->Rep c' w' (val i) v->K (a.put o.dst v) w':=by
   intro v w' c' hn hv
   refine hK _ w' c d ⟨hI.cd,hI.dn,λk hk=>by rw[h2 k (by omega)];exact hI.pre k hk,λk hk=>by rw[h2 k (by omega)];exact hI.post k hk,hI.quiet,hI.wr,tT,?_,?_,hI.fw,hI.gr,c',hn.mem,λr=>?_,λt=>?_,og.step (ks:=[]) (λk hk=>by simp[da]at hk) hI.gr hn.toW.toK⟩
   ·cases hd:o.dst<;>simp[Act.put]<;>exact hI.size
   ·first|exact mf.put (hI.defers.step hm hn.fr)|exact mf.put (hI.defers.step hm hn.toW.fr)
   ·rw[hn.rows,hR,Wa pJ h0 h1 h2 (d:=d) (λk kE rH=>hlen (i+1) k (by omega) (by omega) (by omega)) (by omega) (by omega)]
   ·have hl:∀k o',i<k->dt k=true->ops[k]?=some o'->o'.dst=some t->o.dst=some t->False:=by
     intro k o' oh hk dx M4 We
     rcases(Na me oh ho dx).1 with tU|hb
     ·exact(Gp tU).1 We M4
     ·have:=oe _ _ hk hb
      rw[h0]at this;cases this
    rw[V9 ho pJ h0 h1 h2 hl (by omega)]
    have hold:=Ac hn.cy (hE t)
    cases hd:o.dst with
    |none=>simpa[Act.put,hd]using hold
    |some u=>
     have hu:=hc.dst i o u ho hd
     simp only[Act.put,Option.some.injEq]
     by_cases e':u=t
     ·subst e'
      have mQ:u<a.tmps.size:=Nat.lt_of_lt_of_le hu hI.size
      rw[if_pos rfl]
      simpa[aY,mQ]using hv
     ·rw[if_neg e']
      simpa[aZ e']using hold
  have skip:val i=.dw []->(s (i+1)).rows=(s i).rows->K (a.put o.dst undef) w:=λe1 e2=>
   fin undef w cx ⟨hm,ja.refl _ _,Fr.refl _ _,λb hb=>.inl hb,λr=>by rw[e2,if_neg (by omega)],λ_ _=>⟨rfl,Iff.rfl⟩,λr g1 g2=>by rw[e2]at g2;omega⟩ (by rw[e1];exact SE _ _)
  have run:pH P G M o (cj (s i).env) (s i).rows (ks i) (val i) (s (i+1)).rows->o.nk P a w K Q:=λhX=>by
   unfold pH at hX
   rw[Nc]at hX
   refine hX.2.2 cx w a hm jh o5 (λr g1 g2=>by rw[hR];exact BF (d-c) (by omega) r g1 g2) (λx hx=>?_) K Q fin
   cases x with
   |tmp t=>
    refine Nd t ?_
    unfold Oper.looksAt
    exact List.mem_append_left _ (List.mem_filterMap.2 ⟨.tmp t,by simpa using hx,rfl⟩)
   |const v=>
    simp only[cj,Act.eval]
    cases hv:Gq v with
    |none=>trivial
    |some d=>exact Nf hv cx w
   |global g=>trivial
   |func f=>exact Km f
  have hG:=hc.op i o ho
  unfold wpOp
  simp only[ho]
  unfold nD at hG
  cases hg:o.guard with
  |none=>
   simp only[hg]at hG
   have hw:Region.wanted o (yielded ops a.tmps)=true:=by simp[Region.wanted,hg]
   rw[if_pos hw]
   exact run hG
  |some jw=>
   obtain⟨j,want⟩:=jw
   simp only[hg]at hG
   obtain⟨g,g2,hG⟩:=hG
   have hr:=Nd g (by
    unfold Oper.looksAt
    refine List.mem_append_right _ ?_
    simp only[hg,g2];simp)
   rcases hG with⟨b,g3,g4⟩|⟨g3,_,e1,e2⟩
   rotate_left
   ·rw[g3]at hr
    rw[if_neg (by rw[SF (o:=o) hg g2 hr];simp)]
    exact skip e1 e2
   rw[g3]at hr
   have hw:=SG (o:=o) hg g2 hr
   by_cases e':b=want
   ·rw[if_pos e']at g4
    rw[if_pos (by rw[hw];simpa using e')]
    exact run g4
   ·rw[if_neg e']at g4
    rw[if_neg (by rw[hw];simpa using e')]
    exact skip g4.2.1 g4.2.2
end
def mU(dt:Nat->Bool):Nat->Nat
 |0=>0
 |n+1=>(if dt n=true then 0 else 1)+mU dt n
theorem Wf(dt:Nat->Bool):∀n,mU dt n<=n
 |0=>aX _
 |n+1=>by have:=Wf dt n;simp only[mU];split<;>omega
theorem Z7{dt:Nat->Bool}:∀{n:Nat},mU dt n=0->∀i,i<n->dt i=true
 |n +1,h,i,hi=>by
  simp only[mU]at h
  by_cases e:i=n
  ·subst e
   cases hl:dt i with
   |true=>rfl
   |false=>rw[hl]at h;simp at h
  ·exact Z7 (n:=n) (by omega) i (by omega)
theorem Zq3{dt ga:Nat->Bool}:∀{n:Nat},(∀i,i<n->ga i=dt i)->mU ga n=mU dt n
 |0,_=>rfl
 |n+1,h=>by simp only[mU,h n (by omega),Zq3 (n:=n) (λi hi=>h i (by omega))]
theorem Wg{dt ga:Nat->Bool}{i:Nat}(h0:dt i=false)(h1:ga i=true)(h2:∀k,k≠i->ga k=dt k):∀{n:Nat},i<n->mU ga n+1=mU dt n
 |n +1,h=>by
  simp only[mU]
  by_cases e:i=n
  ·subst e
   rw[Zq3 (dt:=dt) (ga:=ga) (λk hk=>h2 k (by omega)),h0,h1]
   simp;omega
  ·rw[h2 n (λe'=>e e'.symm)]
   have:=Wg h0 h1 h2 (n:=n) (by omega)
   omega
set_option linter.unusedSectionVars false
section
variable {P:Program} {G:List ba} {N M:Nat} {ops:Array Oper} {s:Nat->St} {ks:Nat->List Nat} {val:Nat->D} (hc:Chain P G N M ops s ks val) (me:H5 G ops=true)
include hc me
theorem Zop(hI:Inv P G N M ops s val c0 w0 dt a w c d)(iM:∀i,i<ops.size->dt i=true):∃cx,ff N M c0 w0 cx w (s ops.size) a:=by
 obtain⟨cx,hm,hR,hE,og⟩:=hI.ctx
 have hd:d=ops.size:=by
  by_cases h:d<ops.size
  ·have:=iM d h
   rw[hI.post d (aX _)]at this;cases this
  ·have:=hI.dn;omega
 subst hd
 have Wh:=hI.cd
 have hl:∀k,k<ops.size-c->dt (c+k)=true:=λk hk=>iM _ (by omega)
 refine⟨cx,hm,λr=>?_,λt=>?_,hI.size,hI.defers,hI.fw,hI.gr,og⟩
 ·rw[hR,Sy hc hI.quiet hI.dn (by omega) hl,show c+(ops.size-c)=ops.size by omega]
 ·have:=hE t
  rw[Sx hc hI.quiet hI.dn (by omega) hl]at this
  rwa [show c+(ops.size-c)=ops.size by omega]at this
theorem vF{Q:Exit->Act->World->Prop}(hQ:∀c w a,ff N M c0 w0 c w (s ops.size) a->Q .normal a w):∀(fuel:Nat) (ar:Array Bool) (a:Act) (w:World) (c d:Nat),ar.size=ops.size->mU (λi=>ar.getD i false) ops.size<=fuel->
 Inv P G N M ops s val c0 w0 (λi=>ar.getD i false) a w c d->Ia P .any ops Q fuel ar a w:=by
 intro fuel
 have AU:∀(ar:Array Bool) (i:Nat),ar.size=ops.size->(i∈Region.ready .any ops ar↔ ∃o,ops[i]?=some o/\ar.getD i false=false/\∀e∈o.after,Region.binds .any e=true->ar.getD e.on false=true):=by
  intro ar i fp
  unfold Region.ready
  rw[List.mem_filter,List.mem_range]
  constructor
  ·rintro⟨h1,h2⟩
   have ho:ops[i]?=some ops[i]:=aU h1
   simp only[ho,bA,aR,aE,bB]at h2
   refine⟨_,ho,?_,λe he hb=>?_⟩
   ·have hl:i<ar.size:=by omega
    have:=h2.1
    simpa[aY,hl]using this
   ·have:=Array.all_eq_true'.1 h2.2 e he
    simpa[hb]using this
  ·rintro⟨o,ho,h1,h2⟩
   have bd:=(Array.getElem?_eq_some_iff.1 ho).1
   refine⟨bd,?_⟩
   simp only[ho,bA,aR,aE,bB]
   have hl:i<ar.size:=by omega
   refine⟨by simpa[aY,hl]using h1,Array.all_eq_true'.2 λe he=>?_⟩
   cases hb:Region.binds .any e with
   |false=>rfl
   |true=>simpa[hb]using h2 e he hb
 have kg:∀(ar:Array Bool),ar.size=ops.size->Region.ready .any ops ar=[]->∀i,i<ops.size->ar.getD i false=true:=by
  intro ar fp he i
  induction i using Nat.strongRecOn with
  |_ i ih=>
   intro hi
   cases hl:ar.getD i false with
   |true=>rfl
   |false=>
    exfalso
    have ho:ops[i]?=some ops[i]:=aU hi
    have:i∈Region.ready .any ops ar:=(AU ar i fp).2 ⟨_,ho,hl,λe Aa hb=>by
     have:=Zml me ho e Aa hb
     exact ih e.on this (by omega)⟩
    rw[he]at this;cases this
 induction fuel with
 |zero=>
  intro ar a w c d fp BG hI
  have iM:=Z7 (dt:=λi=>ar.getD i false) (Nat.le_zero.1 BG)
  refine⟨?_,?_⟩
  ·rw[List.eq_nil_iff_forall_not_mem]
   intro i hi
   obtain⟨o,ho,h1,_⟩:=(AU ar i fp).1 hi
   have:=iM i (Array.getElem?_eq_some_iff.1 ho).1
   rw[h1]at this;cases this
  ·obtain⟨cx,hs⟩:=Zop hc me hI iM
   exact hQ cx w a hs
 |succ fuel ih=>
  intro ar a w c d fp BG hI
  refine⟨λhe=>?_,λi hi=>?_⟩
  ·obtain⟨cx,hs⟩:=Zop hc me hI (kg ar fp he)
   exact hQ cx w a hs
  ·obtain⟨o,ho,h1,h2⟩:=(AU ar i fp).1 hi
   have bd:=(Array.getElem?_eq_some_iff.1 ho).1
   have sc:(ar.setIfInBounds i true).getD i false=true:=by
    have hl:i<ar.size:=by omega
    simp[aY,hl]
   have sd:∀k,k≠i->(ar.setIfInBounds i true).getD k false=ar.getD k false:=λk hk=>by
    rw[aQ,aZ (Ne.symm hk),<-aQ]
   refine yF hc me (ga:=λk=>(ar.setIfInBounds i true).getD k false) hI ho h1 sc sd h2 λa' w' c' d' Wi=>?_
   refine ih _ a' w' c' d' (by simpa using fp) ?_ Wi
   have:=Wg (dt:=λk=>ar.getD k false) (ga:=λk=>(ar.setIfInBounds i true).getD k false) h1 sc sd bd
   omega
end
theorem ff.drew{c:Ctx}{st:St}(h:ff N M c0 w0 c w st a):ff N M c0 w0 c w.drew st a:=
 ⟨H4 h.mem,h.rows,λt=>Ac (Kj c w) (h.env t),h.size,h.defers,h.fw,h.gr,h.reach.step (ks:=[]) (λk hk=>by simp[da]at hk) h.gr
  (lT.toK ⟨H4 h.mem,Kj c w,⟨rfl,rfl,rfl,aX _,λ_ _ _=>rfl⟩,λb hb=>.inl hb,λr row hr v=>.inl ⟨⟨row,hr⟩,v,rfl⟩⟩)⟩
theorem xa(hm:P.follows .mixedOrders=true):∀(ro:Option Nat) (T:iu) (G:List ba) (N M id:Nat) (ops:Array Oper) (st:St) (Q:Ex->St->Prop),jg P T->jA P G->H5 G ops=true->(mb T G N M ops ops.toList st λst=>Q .normal st)->tV ro P N M (.region id ops true) st Q:=by
 intro ro T G N M id ops st Q hT hG hd h c0 w0 c w a hs
 obtain⟨s,ks,val,h1,h2,h3,h4,h5⟩:=Zpl hT hG ops.toList 0 st (by simp) h
 have hc:Chain P G N M ops s ks val:=⟨λi o ho=>h3 i o (bC _) ho,λi o t ho=>h4 i o t (bC _) ho,λi o t ho=>h5 i o t (bC _) ho⟩
 have hs:=hs.drew
 refine Qw9 hm ?_
 obtain⟨d,g1,g2,g3,g4⟩:=Qk G ops _ 0 rfl (bC _)
 have hz:∀i,(Array.replicate ops.size false).getD i false=false:=λi=>by
  by_cases h:i<ops.size
  ·simp[aY,h]
  ·simp[aY,h]
 refine vF hc hd (Q:=λe a' w'=>∃ex jo c',mV e=some ex/\Q ex jo/\ff N M c0 w0 c' w' jo a') (λc w a iS=>⟨_,_,c,rfl,by simpa using h2,iS⟩) ops.size _ a _ 0 d (by simp) (Wf _ _)
  ⟨g1,g2,λi hi=>by omega,λi _=>hz i,g3,g4,λj hj=>by simp[hz]at hj,hs.size,hs.defers,hs.fw,hs.gr,c,hs.mem,λr=>?_,λt=>?_,hs.reach⟩
 ·rw[SA (λi _=>hz _),h1];exact hs.rows r
 ·rw[Sz (λi _=>hz _),h1];exact hs.env t
