import Derived.Test.YtaemmjbkndlkeaaGreatMigrateEndsFt
open List renaming drop_eq_nil_of_le->aN,drop_eq_getElem_cons->aO,foldl_cons->aP,getD->aV,getElem?_eq_none->aJ
open Array renaming getD_eq_getD_getElem?->aQ,foldl_toList->aS,getElem?_eq_getElem->aU,getD->aY,getElem?_setIfInBounds_ne->aZ
open Option renaming getD_some->aR,bind_some->aW,map_some->bA
open Bool renaming or_eq_true->aT,false_eq_true->aA,not_eq_true'->bB
open Nat renaming le_refl->aX,zero_le->bC
set_option linter.all false
namespace Go.GD
open Go
variable {G:List bd}{M N c d i j k l r:Nat}{P:Program}{R R':Rows}{a:Act}{c0:Ctx}{dt:Nat->Bool}{o x y:Oper}{ops:Array Oper}{w w0:World}
structure Chain(P:Program)(G:List bd)(N M:Nat)(ops:Array Oper)(s:Nat->St)(ks:Nat->List Nat)(val:Nat->D):Prop where
 op:∀(i:Nat) (o:Oper),ops[i]?=some o->nu P G M ops o (s i).env (s i).rows (ks i) (val i) (s (i+1)).rows
 env:∀(i:Nat) (o:Oper) (t:Nat),ops[i]?=some o->look (s (i+1)).env t=if o.dst=some t then val i else look (rV (ks i) (s i).env) t
 dst:∀(i:Nat) (o:Oper) (t:Nat),ops[i]?=some o->o.dst=some t->t<N
theorem Zqu{P:Program}{T:iy}(hT:Q4 P T){G:List bd}(hG:jD P G){N M:Nat}{ops:Array Oper}{K:St->Prop}:∀(l:List Oper) (k:Nat) (st:St),ops.toList.drop k=l->lV T G N M ops l st K->
 ∃ (s:Nat->St) (ks:Nat->List Nat) (val:Nat->D),s k=st/\K (s (k+l.length))/\(∀(i:Nat) (o:Oper),k<=i->ops[i]?=some o->nu P G M ops o (s i).env (s i).rows (ks i) (val i) (s (i+1)).rows)/\
  (∀(i:Nat) (o:Oper) (t:Nat),k<=i->ops[i]?=some o->look (s (i+1)).env t=if o.dst=some t then val i else look (rV (ks i) (s i).env) t)/\(∀(i:Nat) (o:Oper) (t:Nat),k<=i->ops[i]?=some o->o.dst=some t->t<N)
 |[],k,st,hk,h=>by
  have hlen:ops.size<=k:=by
   have:=congrArg List.length hk
   simp at this;omega
  have no:∀(i:Nat) (o:Oper),k<=i->ops[i]?=some o->False:=λi o hi ho=>by
   have:=(Array.getElem?_eq_some_iff.1 ho).1;omega
  exact⟨λ_=>st,λ_=>[],λ_=>.dead,rfl,h,λi o hi ho=>(no i o hi ho).elim,λi o t hi ho=>(no i o hi ho).elim,λi o t hi ho=>(no i o hi ho).elim⟩
 |o ::l,k,st,hk,h=>by
  have bh:k<ops.toList.length:=by
   by_cases bh:k<ops.toList.length
   ·exact bh
   ·rw[aN (by omega)]at hk;cases hk
  rw[aO bh]at hk
  have ho:ops[k]?=some o:=by
   have:=(List.cons.inj hk).1
   rw[<-this]
   simp at bh
   simp[bh]
  obtain⟨kk,v,R',iG,h1,h2,h3,h4⟩:=VY hT hG h
  obtain⟨s,ks,val,g1,g2,g3,g4,g5⟩:=Zqu hT hG l (k+1) _ (List.cons.inj hk).2 h4
  refine⟨λi=>if i=k then st else s i,λi=>if i=k then kk else ks i,λi=>if i=k then v else val i,by simp,?_,λi p hi hp=>?_,λi p t hi hp=>?_,λi p t hi hp hd=>?_⟩
  ·simp only[List.length_cons]
   rw[if_neg (by omega),show k+(l.length+1)=k+1+l.length by omega]
   exact g2
  ·by_cases e:i=k
   ·subst e
    rw[ho]at hp;cases hp
    simp only[if_true,show¬i+1=i by omega,if_false,g1]
    exact h3
   ·simp only[if_neg e,if_neg (show¬i+1=k by omega)]
    exact g3 i p (by omega) hp
  ·by_cases e:i=k
   ·subst e
    rw[ho]at hp;cases hp
    simp only[if_true,show¬i+1=i by omega,if_false,g1]
    cases tK:o.dst with
    |none=>simp[rW,h1]
    |some u=>simp only[rW,AK,Option.some.injEq,h1]
   ·simp only[if_neg e,if_neg (show¬i+1=k by omega)]
    exact g4 i p t (by omega) hp
  ·by_cases e:i=k
   ·subst e
    rw[ho]at hp;cases hp
    exact h2 t hd
   ·exact g5 i p t (by omega) hp hd
theorem Z6p(ops:Array Oper): ∀(l:List Oper) (acc:Array Nat),(∀k,acc.size<=k-> ∀i,(acc.getD k 0).testBit i=false)->
    ∀(au:Nat->Prop),(∀(j:Nat) (hj:j<acc.size) (i:Nat),(∀o,ops[j]? =some o-> ∀e∈o.after,Region.binds .any e=true->au e.on)->(acc.getD j 0).testBit i=true->au i)->
    (∀j,au j-> ∀o,ops[j]? =some o-> ∀e∈o.after,Region.binds .any e=true->au e.on)->ops.toList.drop acc.size=l->
    ∀ (j i:Nat),(∀o,ops[j]? =some o-> ∀e∈o.after,Region.binds .any e=true->au e.on)->
      ((l.foldl (λ(acc:Array Nat) o=>acc.push (o.after.foldl (λs e=>if Region.binds .any e then s|||2^e.on|||acc.getD e.on 0 else s) 0)) acc).getD j 0).testBit i=true->au i
  | [],acc,hz,au,Ee,jn,hl,j,i,hj,h=>by
    simp only[List.foldl_nil]at h
    by_cases bh:j<acc.size
    . exact Ee j bh i hj h
    . rw[hz j (by omega) i]at h;cases h
  | o :: l, acc,hz,au,Ee,jn,hl,j,i,hj,h=>by
    simp only[aP]at h
    have bh:acc.size<ops.toList.length:=by
      by_cases bh:acc.size<ops.toList.length
      . exact bh
      . rw[aN (by omega)]at hl;cases hl
    rw[aO bh]at hl
    have ho:ops[acc.size]? =some o:=by
      rw[<-(List.cons.inj hl).1]
      simp at bh
      simp [bh]
    refine Z6p ops l _ (λk hk i=> ?_) au (λk hk i uV hb=> ?_) jn (by simpa using(List.cons.inj hl).2) j i hj h
    . simp at hk
      rw[aQ,Array.getElem?_eq_none (by simp;omega)]
      simp
    . simp only [Array.size_push]at hk
      by_cases e:k=acc.size
      . subst e
        rw[aQ,Array.getElem?_push_size,aR]at hb
        have iR:=uV o ho
        rw[<-aS]at hb
        have fold: ∀(es:List Edge) (s0:Nat),(∀e∈es,Region.binds .any e=true->au e.on)->(s0.testBit i=true->au i)->(es.foldl (λs e=>if Region.binds .any e then s|||2^e.on|||acc.getD e.on 0 else s) s0).testBit i=true->au i:=by
          intro es
          induction es with
          |nil=>intro s0 _ h0 hb;exact h0 hb
          | cons e es ih=>
            intro s0 he h0 hb
            simp only[aP]at hb
            refine ih _ (λe' wV=>he e' (by simp [wV])) (λhs=> ?_) hb
            split at hs
            . rename_i MT
              have hle:=he e (by simp) MT
              simp only[Nat.testBit_or,aT,Nat.testBit_two_pow,decide_eq_true_eq]at hs
              rcases hs with(hs|hs)|hs
              . exact h0 hs
              . rw[<-hs];exact hle
              . by_cases bh:e.on<acc.size
                . exact Ee e.on bh i (jn e.on hle) hs
                . rw[hz e.on (by omega) i]at hs;cases hs
            . exact h0 hs
        exact fold o.after.toList 0 (λe he hb=>iR e (by simpa using he) hb) (by simp) hb
      . have mL:k<acc.size:=by omega
        rw[aQ,Array.getElem?_push_lt mL,<-aU mL,<-aQ]at hb
        exact Ee k mL i uV hb
theorem Sj{au:Nat->Prop}(jn:∀j,au j->∀o,ops[j]?=some o->∀e∈o.after,Region.binds .any e=true->au e.on)
 (hj:∀o,ops[j]?=some o->∀e∈o.after,Region.binds .any e=true->au e.on) (h:((Region.before ops).getD j 0).testBit i=true):au i:=by
 refine Z6p ops ops.toList #[] (λk _ i=>by simp) au (λj hj=>by simp at hj) jn (by simp) j i hj ?_
 have:Region.before ops=ops.toList.foldl (λ(acc:Array Nat) o=>acc.push (o.after.foldl (λs e=>if Region.binds .any e then s|||2^e.on|||acc.getD e.on 0 else s) 0)) #[]:=by
  unfold Region.before
  rw[<-aS]
 rw[<-this];exact h
theorem MU(h:HG G ops=true)(JX:i<j)(hx:ops[i]?=some x)(hy:ops[j]?=some y):
 (x.apart ops y=true\/((Region.before ops).getD j 0).testBit i=true)/\((kX G x.op=true/\kX G y.op=true)\/((Region.before ops).getD j 0).testBit i=true):=by
 have hj:=(Array.getElem?_eq_some_iff.1 hy).1
 have h1:=List.all_eq_true.1 h j (List.mem_range.2 hj)
 simp only[aE]at h1
 have h2:=List.all_eq_true.1 h1.2 i (List.mem_range.2 JX)
 unfold Br at h2
 simp only[hx,hy,aE,aT]at h2
 exact h2
theorem Zn7(h:HG G ops=true)(hy:ops[j]?=some y):∀e∈y.after,Region.binds .any e=true->e.on<j:=by
 have hj:=(Array.getElem?_eq_some_iff.1 hy).1
 have h1:=List.all_eq_true.1 h j (List.mem_range.2 hj)
 simp only[aE,hy]at h1
 intro e he hb
 have:=Array.all_eq_true'.1 h1.1 e he
 simp only[hb,Bool.not_true,Bool.false_or]at this
 exact lE this
theorem VZ{o:Op}(h:kX G o=true):rY G o=false:=by
 simpa[kX]using h
theorem V0{env:List (Nat×D)}{ks:List Nat}{v:D}(h:nu P G M ops o env R ks v R')(hq:kX G o.op=true):ks=[]/\∃news,R'=R++news:=by
 have one:pD P G M o (cq env) R ks v R'->ks=[]/\∃news,R'=R++news:=λh=>by
  unfold pD at h
  rw[VZ hq]at h
  exact⟨h.1,h.2.1⟩
 unfold nu at h
 split at h
 ·exact one h
 ·obtain⟨g,_,⟨b,_,h⟩|⟨_,h⟩⟩:=h
  ·split at h
   ·exact one h
   ·exact⟨h.1,[],by rw[h.2.2];simp⟩
  ·exact⟨h.1,[],by rw[h.2.2];simp⟩
def jd(ops:Array Oper)(s:Nat->St)(val:Nat->D)(dt:Nat->Bool)(c:Nat):Nat->Nat->D
 |0,t=>look (s c).env t
 |n+1,t=>if dt (c+n)=true/\(ops[c+n]?).bind (·.dst)=some t then val (c+n)else jd ops s val dt c n t
def ky(s:Nat->St)(dt:Nat->Bool)(c:Nat):Nat->Nat->Option Row
 |0,r=>(s c).rows.getD r none
 |n+1,r=>if dt (c+n)=true/\(s (c+n)).rows.length<=r/\r<(s (c+n+1)).rows.length then(s (c+n+1)).rows.getD r none else ky s dt c n r
theorem Chain.Ef{s:Nat->St}{ks:Nat->List Nat}{val:Nat->D}(hc:Chain P G N M ops s ks val)(ho:ops[i]?=some o)(hq:kX G o.op=true)(t:Nat):look (s (i+1)).env t=if o.dst=some t then val i else look (s i).env t:=by
 rw[hc.env i o t ho,(V0 (hc.op i o ho) hq).1,oC]
theorem J0.toW{c c':Ctx}{w w':World}(hs:J0 c w R R' c' w'):lL c w c' w':=
 ⟨hs.mem,hs.cy,hs.fr.mono (λb _ hf=>hf.elim),hs.fg,λr ao pE hv=>by
  by_cases h1:R.length<=r/\r<R'.length
  ·exact .inr (hs.new r h1.1 h1.2 hv)
  ·rw[hs.rows,if_neg h1]at pE
   obtain⟨h2,h3⟩:=hs.jF r (by omega)
   exact .inl ⟨⟨_,pE⟩,λe=>hv (h3.2 e),h2⟩⟩
theorem Qq4{R news:Rows}(h:r<R.length):(R++news).getD r none=R.getD r none:=by
 simp[aV,List.getElem?_append_left h]
section
variable {P:Program} {G:List bd} {N M:Nat} {ops:Array Oper} {s:Nat->St} {ks:Nat->List Nat} {val:Nat->D} (hc:Chain P G N M ops s ks val) (lW:HG G ops=true)
include hc
theorem Z7z(hq:∀(i:Nat) (o:Oper),c<=i->i<d->ops[i]?=some o->kX G o.op=true)(hd:d<=ops.size)(hk:c<=k):∀{l:Nat},k<=l->l<=d->∃news,(s l).rows=(s k).rows++news:=by
 intro l hl
 induction l with
 |zero=>intro _;exact⟨[],by rw[show k=0 by omega];simp⟩
 |succ l ih=>
  intro Dr
  by_cases e:k=l+1
  ·exact⟨[],by rw[e];simp⟩
  ·obtain⟨n1,h1⟩:=ih (by omega) (by omega)
   have ho:ops[l]?=some ops[l]:=aU (by omega)
   obtain⟨_,n2,h2⟩:=V0 (hc.op l _ ho) (hq l _ (by omega) (by omega) ho)
   exact⟨n1++n2,by rw[h2,h1,List.append_assoc]⟩
theorem J1(hq:∀(i:Nat) (o:Oper),c<=i->i<d->ops[i]?=some o->kX G o.op=true)(hd:d<=ops.size)(hk:c<=k)(hl:k<=l)(Dr:l<=d):(s k).rows.length<=(s l).rows.length:=by
 obtain⟨n,h⟩:=Z7z hc hq hd hk hl Dr
 rw[h];simp
theorem J2(hq:∀(i:Nat) (o:Oper),c<=i->i<d->ops[i]?=some o->kX G o.op=true)(hd:d<=ops.size)(hk:c<=k)(hl:k<=l)(Dr:l<=d)(hr:r<(s k).rows.length):(s l).rows.getD r none=(s k).rows.getD r none:=by
 obtain⟨n,h⟩:=Z7z hc hq hd hk hl Dr
 rw[h,Qq4 hr]
theorem Sk{dt:Nat->Bool}{c d:Nat}(hq:∀(i:Nat) (o:Oper),c<=i->i<d->ops[i]?=some o->kX G o.op=true)(hd:d<=ops.size):∀{n:Nat},c+n<=d->(∀i,i<n->dt (c+i)=true)->∀t,jd ops s val dt c n t=look (s (c+n)).env t
 |0,_,_,t=>rfl
 |n+1,hn,hl,t=>by
  have ho:ops[c+n]?=some ops[c+n]:=aU (by omega)
  simp only[jd,hl n (by omega),true_and,ho,aW]
  rw[show c+(n+1)=(c+n)+1 by omega,hc.Ef ho (hq _ _ (by omega) (by omega) ho) t]
  split
  ·rfl
  ·exact Sk hq hd (by omega) (λi hi=>hl i (by omega)) t
theorem Sl{dt:Nat->Bool}{c d:Nat}(hq:∀(i:Nat) (o:Oper),c<=i->i<d->ops[i]?=some o->kX G o.op=true)(hd:d<=ops.size):∀{n:Nat},c+n<=d->(∀i,i<n->dt (c+i)=true)->∀r,ky s dt c n r=(s (c+n)).rows.getD r none
 |0,_,_,r=>rfl
 |n + 1,hn,hl,r=>by
  simp only[ky,hl n (by omega),true_and]
  rw[show c+(n+1)=c+n+1 by omega]
  split
  ·rfl
  ·rename_i h1
   rw[Sl hq hd (by omega) (λi hi=>hl i (by omega)) r]
   by_cases h2:r<(s (c+n)).rows.length
   ·exact(J2 hc hq hd (by omega) (by omega) (by omega) h2).symm
   ·have hlen:=J1 hc hq hd (show c<=c+n by omega) (show c+n<=c+n+1 by omega) (by omega)
    simp only[aV]
    rw[aJ (by omega),aJ (by omega)]
end
theorem Sm{ops:Array Oper}{s:Nat->St}{val:Nat->D}{dt:Nat->Bool}{c:Nat}:∀{n:Nat},(∀i,i<n->dt (c+i)=false)->∀t,jd ops s val dt c n t=look (s c).env t
 |0,_,t=>rfl
 |n+1,hl,t=>by
  simp only[jd,hl n (by omega),aA,false_and,if_false]
  exact Sm (λi hi=>hl i (by omega)) t
theorem Sn{s:Nat->St}{dt:Nat->Bool}{c:Nat}:∀{n:Nat},(∀i,i<n->dt (c+i)=false)->∀r,ky s dt c n r=(s c).rows.getD r none
 |0,_,r=>rfl
 |n+1,hl,r=>by
  simp only[ky,hl n (by omega),aA,false_and,if_false]
  exact Sn (λi hi=>hl i (by omega)) r
theorem So{ops:Array Oper}{s:Nat->St}{val:Nat->D}{dt gb:Nat->Bool}{c:Nat}:∀{n:Nat},(∀i,i<n->gb (c+i)=dt (c+i))->∀t,jd ops s val gb c n t=jd ops s val dt c n t
 |0,_,t=>rfl
 |n+1,hl,t=>by simp only[jd,hl n (by omega),So (n:=n) (λi hi=>hl i (by omega)) t]
theorem Sp{s:Nat->St}{dt gb:Nat->Bool}{c:Nat}:∀{n:Nat},(∀i,i<n->gb (c+i)=dt (c+i))->∀r,ky s gb c n r=ky s dt c n r
 |0,_,r=>rfl
 |n+1,hl,r=>by simp only[ky,hl n (by omega),Sp (n:=n) (λi hi=>hl i (by omega)) r]
theorem V1{ops:Array Oper}{s:Nat->St}{val:Nat->D}{dt gb:Nat->Bool}{c i:Nat}{o:Oper}(ho:ops[i]? =some o)(pF:c<=i)(h0:dt i=false)(h1:gb i=true)(h2: ∀k,k≠i->gb k=dt k){t:Nat}
    (r3: ∀k o',i<k->dt k=true->ops[k]? =some o'->o'.dst=some t->o.dst=some t->False): ∀{n:Nat},i<c+n->jd ops s val gb c n t=if o.dst=some t then val i else jd ops s val dt c n t
  |0,h=>by omega
  | n + 1,h=>by
    by_cases e:i=c+n
    . simp only[jd,<-e,h0,h1,ho,aW,true_and,aA,false_and,if_false]
      split
      . rfl
      . exact So (λk hk=>h2 _ (by omega)) t
    . simp only[jd,h2 (c+n) (λe'=>e e'.symm)]
      rw[V1 ho pF h0 h1 h2 r3 (n:=n) (by omega)]
      by_cases g:dt (c+n)=true/\(ops[c+n]?).bind (·.dst)=some t
      . by_cases hd:o.dst=some t
        . exfalso
          obtain⟨g1,g2⟩:=g
          cases hk:ops[c+n]? with
          |none=>rw[hk]at g2;cases g2
          | some o'=>
            rw[hk]at g2
            exact r3 (c+n) o' (by omega) g1 hk g2 hd
        . rw[if_pos g,if_neg hd,if_pos g]
      . rw[if_neg g,if_neg g]
theorem V2{s:Nat->St}{dt gb:Nat->Bool}{c i:Nat}(pF:c<=i)(h0:dt i=false)(h1:gb i=true)(h2:∀k,k≠i->gb k=dt k){r d:Nat}
 (hlen:∀k,i<k->k<d->(s (i+1)).rows.length<=(s k).rows.length):∀{n:Nat},i<c+n->c+n<=d->ky s gb c n r=if(s i).rows.length<=r/\r<(s (i+1)).rows.length then(s (i+1)).rows.getD r none else ky s dt c n r
 |0,h,_=>by omega
 |n +1,h,hn=>by
  by_cases e:i=c+n
  ·simp only[ky,<-e,h0,h1,true_and,aA,false_and,if_false]
   split
   ·rfl
   ·exact Sp (λk hk=>h2 _ (by omega)) r
  ·simp only[ky,h2 (c+n) (λe'=>e e'.symm)]
   rw[V2 pF h0 h1 h2 hlen (n:=n) (by omega) (by omega)]
   have:=hlen (c+n) (by omega) (by omega)
   by_cases g:dt (c+n)=true/\(s (c+n)).rows.length<=r/\r<(s (c+n+1)).rows.length
   ·rw[if_pos g,if_neg (by omega),if_pos g]
   ·rw[if_neg g,if_neg g]
theorem FR(h:x.apart ops y=true){t:Nat}:(x.dst=some t->y.dst≠some t)/\(x.dst=some t->t∉y.looksAt ops)/\(y.dst=some t->t∉x.looksAt ops):=by
 obtain⟨h1,h2,h3⟩:=Oper.apart_spec h
 exact⟨λe=>h2 t e,λe=>h1 t e,λe=>h3 t e⟩
structure Inv(P:Program)(G:List bd)(N M:Nat)(ops:Array Oper)(s:Nat->St)(val:Nat->D)(c0:Ctx)(w0:World)(dt:Nat->Bool)(a:Act)(w:World)(c d:Nat):Prop where
 cd:c<=d
 dn:d<=ops.size
 pre:∀i,i<c->dt i=true
 post:∀i,d<=i->dt i=false
 quiet:∀(i:Nat) (o:Oper),c<=i->i<d->ops[i]?=some o->kX G o.op=true
 wr:∀(o:Oper),ops[d]?=some o->kX G o.op=false
 closed:∀j,dt j=true->∀(o:Oper),ops[j]?=some o->∀e∈o.after,Region.binds .any e=true->dt e.on=true
 size:N<=a.tmps.size
 defers:lX w0.heap.size w a.defers
 fx:c0.base<=w0.heap.size
 gv:∀r row,c0.R r=some row->r<M
 ctx:∃cx,Mem cx w/\(∀r,cx.R r=ky s dt c (d-c) r)/\(∀t,Rep cx w (jd ops s val dt c (d-c) t) (a.tmps.getD t undef))/\wW c0 w0 cx w
theorem MV(G:List bd)(ops:Array Oper):∀(n c:Nat),ops.size-c=n->c<=ops.size->∃d,c<=d/\d<=ops.size/\(∀(i:Nat) (o:Oper),c<=i->i<d->ops[i]?=some o->kX G o.op=true)/\(∀(o:Oper),ops[d]?=some o->kX G o.op=false)
 |0,c,h,hc=>⟨c,aX _,hc,λi o h1 h2=>by omega,λo ho=>by
  have:=(Array.getElem?_eq_some_iff.1 ho).1;omega⟩
 |n +1,c,h,hc=>by
  have ho:ops[c]?=some ops[c]:=aU (by omega)
  cases hq:kX G ops[c].op with
  |false=>exact⟨c,aX _,hc,λi o h1 h2=>by omega,λo h'=>by rw[ho]at h';cases h';exact hq⟩
  |true=>
   obtain⟨d,h1,h2,h3,h4⟩:=MV G ops n (c+1) (by omega) (by omega)
   refine⟨d,by omega,h2,λi o hi hid h'=>?_,h4⟩
   by_cases e:i=c
   ·subst e;rw[ho]at h';cases h';exact hq
   ·exact h3 i o (by omega) hid h'
section
variable {P:Program} {G:List bd} {N M:Nat} {ops:Array Oper} {s:Nat->St} {ks:Nat->List Nat} {val:Nat->D} (hc:Chain P G N M ops s ks val) (lW:HG G ops=true)
include hc lW
theorem xG{dt gb:Nat->Bool}(hI:Inv P G N M ops s val c0 w0 dt a w c d)(ho:ops[i]?=some o)(h0:dt i=false)(h1:gb i=true)(h2:∀k,k≠i->gb k=dt k)
 (MW:∀e∈o.after,Region.binds .any e=true->dt e.on=true) {K:Act->World->Prop} {Q:Exit->Act->World->Prop} (hK:∀a' w' c' d',Inv P G N M ops s val c0 w0 gb a' w' c' d'->K a' w'):wpOp P ops Q i K a w:=by
 have bh:=(Array.getElem?_eq_some_iff.1 ho).1
 have pV:∀k,((Region.before ops).getD i 0).testBit k=true->dt k=true:=λk hk=>
  Sj (au:=λk=>dt k=true) hI.closed (λo' jo=>by rw[ho]at jo;cases jo;exact MW) hk
 have nW:∀j k,dt j=true->((Region.before ops).getD j 0).testBit k=true->dt k=true:=λj k hj hk=>
  Sj (au:=λk=>dt k=true) hI.closed (hI.closed j hj) hk
 have pF:c<=i:=by
  by_cases h:c<=i
  ·exact h
  ·rw[hI.pre i (by omega)]at h0;cases h0
 have tL:∀j,gb j=true->∀(o:Oper),ops[j]?=some o->∀e∈o.after,Region.binds .any e=true->gb e.on=true:=by
  intro j hj o' jo e he hb
  have gu:dt e.on=true:=by
   by_cases e':j=i
   ·subst e';rw[ho]at jo;cases jo;exact MW e he hb
   ·rw[h2 j e']at hj;exact hI.closed j hj o' jo e he hb
  rw[h2 e.on (λe'=>by rw[e',h0]at gu;cases gu)]
  exact gu
 have hid:i<=d:=by
  by_cases h:i<=d
  ·exact h
  ·exfalso
   have Bs:ops[d]?=some ops[d]:=aU (by omega)
   have:=(MU lW (show d<i by omega) Bs ho).2
   rcases this with⟨hq,_⟩|hb
   ·rw[hI.wr _ Bs]at hq;cases hq
   ·have:=pV d hb
    rw[hI.post d (aX _)]at this;cases this
 obtain⟨cx,hm,hR,hE,nX⟩:=hI.ctx
 by_cases e:i=d
 ·
  subst e
  have iR:∀k,k<i-c->dt (c+k)=true:=λk hk=>by
   have dx:ops[c+k]?=some ops[c+k]:=aU (by omega)
   have:=(MU lW (show c+k<i by omega) dx ho).2
   rcases this with⟨_,hq⟩|hb
   ·rw[hI.wr _ ho]at hq;cases hq
   ·exact pV _ hb
  have hs:fi N M c0 w0 cx w (s i) a:=by
   refine⟨hm,λr=>?_,λt=>?_,hI.size,hI.defers,hI.fx,hI.gv,nX⟩
   ·rw[hR,Sl hc hI.quiet hI.dn (by omega) iR]
    rw[show c+(i-c)=i by omega]
   ·have:=hE t
    rw[Sk hc hI.quiet hI.dn (by omega) iR]at this
    rwa [show c+(i-c)=i by omega]at this
  refine qY ho hs (λ_=>rfl) (λt=>hc.dst i o t ho) (hc.op i o ho) λa' w' c' iU=>?_
  obtain⟨d',g1,g2,g3,g4⟩:=MV G ops _ (i+1) rfl (by omega)
  have r3:∀k,k<d'-(i+1)->gb (i+1+k)=false:=λk hk=>by
   rw[h2 _ (by omega)];exact hI.post _ (by omega)
  refine hK a' w' (i+1) d' ⟨g1,g2,λk hk=>?_,λk hk=>?_,g3,g4,tL,iU.size,iU.defers,iU.fx,iU.gv,c',iU.mem,λr=>?_,λt=>?_,iU.reach⟩
  ·by_cases e':k=i
   ·rw[e'];exact h1
   ·rw[h2 k e']
    by_cases V3:k<c
    ·exact hI.pre k V3
    ·have:=iR (k-c) (by omega)
     rwa [show c+(k-c)=k by omega]at this
  ·rw[h2 k (by omega)];exact hI.post k (by omega)
  ·rw[Sn r3];exact iU.rows r
  ·rw[Sm r3,hc.env i o t ho]
   have:=iU.env t
   cases hd:o.dst with
   |none=>simpa[rW,hd]using this
   |some u=>simpa only[rW,hd,AK,Option.some.injEq]using this
 ·
  have HH:i<d:=by omega
  have hq:=hI.quiet i o pF HH ho
  have MX:=VZ hq
  have HI :∀t∈o.looksAt ops,∀n,c+n<=d->jd ops s val dt c n t=if c+n<=i then look (s (c+n)).env t else look (s i).env t:=by
   intro t ht n
   induction n with
   |zero=>intro _;simp only[jd,Nat.add_zero];rw[if_pos pF]
   |succ n ih=>
    intro hn
    have HJ:=hI.dn
    obtain⟨ok,dx⟩:∃ok,ops[c+n]?=some ok:=⟨_,aU (show c+n<ops.size by omega)⟩
    have ih:=ih (by omega)
    simp only[jd,dx,aW]
    by_cases hk:c+n<i
    ·have hA:c+(n+1)<=i:=by omega
     have Sq:c+n<=i:=by omega
     rw[if_pos hA,show c+(n+1)=c+n+1 by omega,hc.Ef dx (hI.quiet _ _ (by omega) (by omega) dx) t]
     rw[if_pos Sq]at ih
     by_cases hd:ok.dst=some t
     ·have hl:dt (c+n)=true:=by
       rcases(MU lW hk dx ho).1 with tM|hb
       ·exact((FR tM).2.1 hd ht).elim
       ·exact pV _ hb
      rw[if_pos ⟨hl,hd⟩,if_pos hd]
     ·rw[if_neg (λg=>hd g.2),if_neg hd,ih]
    ·have HK:¬(dt (c+n)=true/\ok.dst=some t):=by
      rintro⟨g1,g2⟩
      by_cases e':c+n=i
      ·rw[e',h0]at g1;cases g1
      ·have nY:i<c+n:=by omega
       rcases(MU lW nY ho dx).1 with tM|hb
       ·exact(FR tM).2.2 g2 ht
       ·have:=nW _ _ g1 hb
        rw[h0]at this;cases this
     have hA:¬c+(n+1)<=i:=by omega
     rw[if_neg HK,ih,if_neg hA]
     split
     ·rw[show c+n=i by omega]
     ·rfl
  have MY:∀t∈o.looksAt ops,Rep cx w (look (s i).env t) (a.tmps.getD t undef):=λt ht=>by
   have:=hE t
   rw[HI t ht (d-c) (by omega),if_neg (by omega)]at this
   exact this
  have hlen:∀k l,c<=k->k<=l->l<=d->(s k).rows.length<=(s l).rows.length:=λk l h1 h2 h3=>J1 hc hI.quiet hI.dn h1 h2 h3
  have iw:∀k l,c<=k->k<=l->l<=d->∀r,r<(s k).rows.length->(s l).rows.getD r none=(s k).rows.getD r none:=λk l h1 h2 h3 r hr=>J2 hc hI.quiet hI.dn h1 h2 h3 hr
  have Bt:∀n,c+n<=d->∀r,r<(s i).rows.length->∀row,ky s dt c n r=some row->(s i).rows.getD r none=some row:=by
   intro n
   induction n with
   |zero=>
    intro _ r hr row h
    simp only[ky]at h
    by_cases V4:r<(s c).rows.length
    ·rw[iw c i (aX _) pF (by omega) r V4];exact h
    ·simp only[aV,aJ (show(s c).rows.length<=r by omega)]at h;cases h
   |succ n ih=>
    intro hn r hr row h
    simp only[ky]at h
    split at h
    ·rename_i g
     obtain⟨g1,g2,g3⟩:=g
     have V5:c+n<i:=by
      by_cases mL:c+n<i
      ·exact mL
      ·by_cases e':c+n=i
       ·rw[e',h0]at g1;cases g1
       ·have:=hlen i (c+n) pF (by omega) (by omega);omega
     rw[iw (c+n+1) i (by omega) (by omega) (by omega) r g3];exact h
    ·exact ih (by omega) r hr row h
  have Bu:∀n,c+n<=d->∀r,(s i).rows.length<=r->r<(s (i+1)).rows.length->ky s dt c n r=none:=by
   intro n
   induction n with
   |zero=>
    intro _ r h1 h2
    have:=hlen c i (aX _) pF (by omega)
    simp only[ky,aV,aJ (show(s c).rows.length<=r by omega),Option.getD_none]
   |succ n ih=>
    intro hn r h1 h2
    simp only[ky]
    rw[if_neg]
    ·exact ih (by omega) r h1 h2
    ·rintro⟨g1,g2,g3⟩
     by_cases e':c+n=i
     ·rw[e',h0]at g1;cases g1
     ·by_cases mL:c+n<i
      ·have:=hlen (c+n+1) i (by omega) (by omega) (by omega);omega
      ·have:=hlen (i+1) (c+n) (by omega) (by omega) (by omega);omega
  have jh:cx.base<=w.heap.size:=by rw[nX.cy.base];exact Nat.le_trans hI.fx nX.fr.size
  have oW:mf cx (s i).rows:=λr row ao g1 g2=>by
   have hr:r<(s i).rows.length:=by
    by_cases h:r<(s i).rows.length
    ·exact h
    ·simp only[aV,aJ (show(s i).rows.length<=r by omega)]at g2;cases g2
   rw[hR]at g1
   have:=Bt (d-c) (by omega) r hr row g1
   rw[this]at g2;exact Option.some.inj g2
  have fin:∀v w' c',J0 cx w (s i).rows (s (i+1)).rows c' w'->Rep c' w' (val i) v->K (a.put o.dst v) w':=by
   intro v w' c' hn hv
   refine hK _ w' c d ⟨hI.cd,hI.dn,λk hk=>by rw[h2 k (by omega)];exact hI.pre k hk,λk hk=>by rw[h2 k (by omega)];exact hI.post k hk,hI.quiet,hI.wr,tL,?_,?_,hI.fx,hI.gv,c',hn.mem,λr=>?_,λt=>?_,nX.step (ks:=[]) (λk hk=>by simp[da]at hk) hI.gv hn.toW.toK⟩
   ·cases hd:o.dst<;>simp[Act.put]<;>exact hI.size
   ·first|exact lX.put (hI.defers.step hm hn.fr)|exact lX.put (hI.defers.step hm hn.toW.fr)
   ·rw[hn.rows,hR,V2 pF h0 h1 h2 (d:=d) (λk nb pW=>hlen (i+1) k (by omega) (by omega) (by omega)) (by omega) (by omega)]
   ·have hl:∀k o',i<k->dt k=true->ops[k]?=some o'->o'.dst=some t->o.dst=some t->False:=by
     intro k o' nY hk dx MO V6
     rcases(MU lW nY ho dx).1 with tM|hb
     ·exact(FR tM).1 V6 MO
     ·have:=nW _ _ hk hb
      rw[h0]at this;cases this
    rw[V1 ho pF h0 h1 h2 hl (by omega)]
    have hold:=wX hn.cy (hE t)
    cases hd:o.dst with
    |none=>simpa[Act.put,hd]using hold
    |some u=>
     have hu:=hc.dst i o u ho hd
     simp only[Act.put,Option.some.injEq]
     by_cases e':u=t
     ·subst e'
      have mL:u<a.tmps.size:=Nat.lt_of_lt_of_le hu hI.size
      rw[if_pos rfl]
      simpa[aY,mL]using hv
     ·rw[if_neg e']
      simpa[aZ e']using hold
  have skip:val i=.dw []->(s (i+1)).rows=(s i).rows->K (a.put o.dst undef) w:=λe1 e2=>
   fin undef w cx ⟨hm,jc.refl _ _,Fr.refl _ _,λb hb=>.inl hb,λr=>by rw[e2,if_neg (by omega)],λ_ _=>⟨rfl,Iff.rfl⟩,λr g1 g2=>by rw[e2]at g2;omega⟩ (by rw[e1];exact Sr _ _)
  have run:pD P G M o (cq (s i).env) (s i).rows (ks i) (val i) (s (i+1)).rows->o.nd P a w K Q:=λhX=>by
   unfold pD at hX
   rw[MX]at hX
   refine hX.2.2 cx w a hm jh oW (λr g1 g2=>by rw[hR];exact Bu (d-c) (by omega) r g1 g2) (λx hx=>?_) K Q fin
   cases x with
   |tmp t=>
    refine MY t ?_
    unfold Oper.looksAt
    exact List.mem_append_left _ (List.mem_filterMap.2 ⟨.tmp t,by simpa using hx,rfl⟩)
   |const v=>
    simp only[cq,Act.eval]
    cases hv:FT v with
    |none=>trivial
    |some d=>exact MZ hv cx w
   |global g=>trivial
   |func f=>exact J3 f
  have hG:=hc.op i o ho
  unfold wpOp
  simp only[ho]
  unfold nu at hG
  cases hg:o.guard with
  |none=>
   simp only[hg]at hG
   have hw:Region.wanted o (yielded ops a.tmps)=true:=by simp[Region.wanted,hg]
   rw[if_pos hw]
   exact run hG
  |some jw=>
   obtain⟨j,want⟩:=jw
   simp only[hg]at hG
   obtain⟨g,g2,hG⟩:=hG
   have hr:=MY g (by
    unfold Oper.looksAt
    refine List.mem_append_right _ ?_
    simp only[hg,g2];simp)
   rcases hG with⟨b,g3,g4⟩|⟨g3,_,e1,e2⟩
   rotate_left
   ·rw[g3]at hr
    rw[if_neg (by rw[Ss (o:=o) hg g2 hr];simp)]
    exact skip e1 e2
   rw[g3]at hr
   have hw:=Su (o:=o) hg g2 hr
   by_cases e':b=want
   ·rw[if_pos e']at g4
    rw[if_pos (by rw[hw];simpa using e')]
    exact run g4
   ·rw[if_neg e']at g4
    rw[if_neg (by rw[hw];simpa using e')]
    exact skip g4.2.1 g4.2.2
end
def mM(dt:Nat->Bool):Nat->Nat
 |0=>0
 |n+1=>(if dt n=true then 0 else 1)+mM dt n
theorem V7(dt:Nat->Bool):∀n,mM dt n<=n
 |0=>aX _
 |n+1=>by have:=V7 dt n;simp only[mM];split<;>omega
theorem V8{dt:Nat->Bool}:∀{n:Nat},mM dt n=0->∀i,i<n->dt i=true
 |n +1,h,i,hi=>by
  simp only[mM]at h
  by_cases e:i=n
  ·subst e
   cases hl:dt i with
   |true=>rfl
   |false=>rw[hl]at h;simp at h
  ·exact V8 (n:=n) (by omega) i (by omega)
theorem Zpf{dt gb:Nat->Bool}:∀{n:Nat},(∀i,i<n->gb i=dt i)->mM gb n=mM dt n
 |0,_=>rfl
 |n+1,h=>by simp only[mM,h n (by omega),Zpf (n:=n) (λi hi=>h i (by omega))]
theorem V9{dt gb:Nat->Bool}{i:Nat}(h0:dt i=false)(h1:gb i=true)(h2:∀k,k≠i->gb k=dt k):∀{n:Nat},i<n->mM gb n+1=mM dt n
 |n +1,h=>by
  simp only[mM]
  by_cases e:i=n
  ·subst e
   rw[Zpf (dt:=dt) (gb:=gb) (λk hk=>h2 k (by omega)),h0,h1]
   simp;omega
  ·rw[h2 n (λe'=>e e'.symm)]
   have:=V9 h0 h1 h2 (n:=n) (by omega)
   omega
set_option linter.unusedSectionVars false
section
variable {P:Program} {G:List bd} {N M:Nat} {ops:Array Oper} {s:Nat->St} {ks:Nat->List Nat} {val:Nat->D} (hc:Chain P G N M ops s ks val) (lW:HG G ops=true)
include hc lW
theorem Zqg(hI:Inv P G N M ops s val c0 w0 dt a w c d)(iR:∀i,i<ops.size->dt i=true):∃cx,fi N M c0 w0 cx w (s ops.size) a:=by
 obtain⟨cx,hm,hR,hE,nX⟩:=hI.ctx
 have hd:d=ops.size:=by
  by_cases h:d<ops.size
  ·have:=iR d h
   rw[hI.post d (aX _)]at this;cases this
  ·have:=hI.dn;omega
 subst hd
 have Wa:=hI.cd
 have hl:∀k,k<ops.size-c->dt (c+k)=true:=λk hk=>iR _ (by omega)
 refine⟨cx,hm,λr=>?_,λt=>?_,hI.size,hI.defers,hI.fx,hI.gv,nX⟩
 ·rw[hR,Sl hc hI.quiet hI.dn (by omega) hl,show c+(ops.size-c)=ops.size by omega]
 ·have:=hE t
  rw[Sk hc hI.quiet hI.dn (by omega) hl]at this
  rwa [show c+(ops.size-c)=ops.size by omega]at this
theorem zG{Q:Exit->Act->World->Prop}(hQ:∀c w a,fi N M c0 w0 c w (s ops.size) a->Q .normal a w):∀(fuel:Nat) (au:Array Bool) (a:Act) (w:World) (c d:Nat),au.size=ops.size->mM (λi=>au.getD i false) ops.size<=fuel->
 Inv P G N M ops s val c0 w0 (λi=>au.getD i false) a w c d->HL P .any ops Q fuel au a w:=by
 intro fuel
 have AL:∀(au:Array Bool) (i:Nat),au.size=ops.size->(i∈Region.ready .any ops au↔ ∃o,ops[i]?=some o/\au.getD i false=false/\∀e∈o.after,Region.binds .any e=true->au.getD e.on false=true):=by
  intro au i ft
  unfold Region.ready
  rw[List.mem_filter,List.mem_range]
  constructor
  ·rintro⟨h1,h2⟩
   have ho:ops[i]?=some ops[i]:=aU h1
   simp only[ho,bA,aR,aE,bB]at h2
   refine⟨_,ho,?_,λe he hb=>?_⟩
   ·have hl:i<au.size:=by omega
    have:=h2.1
    simpa[aY,hl]using this
   ·have:=Array.all_eq_true'.1 h2.2 e he
    simpa[hb]using this
  ·rintro⟨o,ho,h1,h2⟩
   have bh:=(Array.getElem?_eq_some_iff.1 ho).1
   refine⟨bh,?_⟩
   simp only[ho,bA,aR,aE,bB]
   have hl:i<au.size:=by omega
   refine⟨by simpa[aY,hl]using h1,Array.all_eq_true'.2 λe he=>?_⟩
   cases hb:Region.binds .any e with
   |false=>rfl
   |true=>simpa[hb]using h2 e he hb
 have ki:∀(au:Array Bool),au.size=ops.size->Region.ready .any ops au=[]->∀i,i<ops.size->au.getD i false=true:=by
  intro au ft he i
  induction i using Nat.strongRecOn with
  |_ i ih=>
   intro hi
   cases hl:au.getD i false with
   |true=>rfl
   |false=>
    exfalso
    have ho:ops[i]?=some ops[i]:=aU hi
    have:i∈Region.ready .any ops au:=(AL au i ft).2 ⟨_,ho,hl,λe wV hb=>by
     have:=Zn7 lW ho e wV hb
     exact ih e.on this (by omega)⟩
    rw[he]at this;cases this
 induction fuel with
 |zero=>
  intro au a w c d ft Bv hI
  have iR:=V8 (dt:=λi=>au.getD i false) (Nat.le_zero.1 Bv)
  refine⟨?_,?_⟩
  ·rw[List.eq_nil_iff_forall_not_mem]
   intro i hi
   obtain⟨o,ho,h1,_⟩:=(AL au i ft).1 hi
   have:=iR i (Array.getElem?_eq_some_iff.1 ho).1
   rw[h1]at this;cases this
  ·obtain⟨cx,hs⟩:=Zqg hc lW hI iR
   exact hQ cx w a hs
 |succ fuel ih=>
  intro au a w c d ft Bv hI
  refine⟨λhe=>?_,λi hi=>?_⟩
  ·obtain⟨cx,hs⟩:=Zqg hc lW hI (ki au ft he)
   exact hQ cx w a hs
  ·obtain⟨o,ho,h1,h2⟩:=(AL au i ft).1 hi
   have bh:=(Array.getElem?_eq_some_iff.1 ho).1
   have r4:(au.setIfInBounds i true).getD i false=true:=by
    have hl:i<au.size:=by omega
    simp[aY,hl]
   have r5:∀k,k≠i->(au.setIfInBounds i true).getD k false=au.getD k false:=λk hk=>by
    rw[aQ,aZ (Ne.symm hk),<-aQ]
   refine xG hc lW (gb:=λk=>(au.setIfInBounds i true).getD k false) hI ho h1 r4 r5 h2 λa' w' c' d' Wb=>?_
   refine ih _ a' w' c' d' (by simpa using ft) ?_ Wb
   have:=V9 (dt:=λk=>au.getD k false) (gb:=λk=>(au.setIfInBounds i true).getD k false) h1 r4 r5 bh
   omega
end
theorem fi.drew{c:Ctx}{st:St}(h:fi N M c0 w0 c w st a):fi N M c0 w0 c w.drew st a:=
 ⟨HF h.mem,h.rows,λt=>wX (JZ c w) (h.env t),h.size,h.defers,h.fx,h.gv,h.reach.step (ks:=[]) (λk hk=>by simp[da]at hk) h.gv
  (lL.toK ⟨HF h.mem,JZ c w,⟨rfl,rfl,rfl,aX _,λ_ _ _=>rfl⟩,λb hb=>.inl hb,λr row hr v=>.inl ⟨⟨row,hr⟩,v,rfl⟩⟩)⟩
theorem xa(hm:P.follows .mixedOrders=true):∀(ro:Option Nat) (T:iy) (G:List bd) (N M id:Nat) (ops:Array Oper) (st:St) (Q:Ex->St->Prop),Q4 P T->jD P G->HG G ops=true->(lV T G N M ops ops.toList st λst=>Q .normal st)->tN ro P N M (.region id ops true) st Q:=by
 intro ro T G N M id ops st Q hT hG hd h c0 w0 c w a hs
 obtain⟨s,ks,val,h1,h2,h3,h4,h5⟩:=Zqu hT hG ops.toList 0 st (by simp) h
 have hc:Chain P G N M ops s ks val:=⟨λi o ho=>h3 i o (bC _) ho,λi o t ho=>h4 i o t (bC _) ho,λi o t ho=>h5 i o t (bC _) ho⟩
 have hs:=hs.drew
 refine Qya hm ?_
 obtain⟨d,g1,g2,g3,g4⟩:=MV G ops _ 0 rfl (bC _)
 have hz:∀i,(Array.replicate ops.size false).getD i false=false:=λi=>by
  by_cases h:i<ops.size
  ·simp[aY,h]
  ·simp[aY,h]
 refine zG hc hd (Q:=λe a' w'=>∃ex jq c',mN e=some ex/\Q ex jq/\fi N M c0 w0 c' w' jq a') (λc w a iU=>⟨_,_,c,rfl,by simpa using h2,iU⟩) ops.size _ a _ 0 d (by simp) (V7 _ _)
  ⟨g1,g2,λi hi=>by omega,λi _=>hz i,g3,g4,λj hj=>by simp[hz]at hj,hs.size,hs.defers,hs.fx,hs.gv,c,hs.mem,λr=>?_,λt=>?_,hs.reach⟩
 ·rw[Sn (λi _=>hz _),h1];exact hs.rows r
 ·rw[Sm (λi _=>hz _),h1];exact hs.env t
