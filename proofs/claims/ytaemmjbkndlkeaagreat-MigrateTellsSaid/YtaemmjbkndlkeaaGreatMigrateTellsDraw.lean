import Derived.Test.YtaemmjbkndlkeaaGreatMigrateTellsFt
open List renaming drop_eq_nil_of_le->aN,drop_eq_getElem_cons->aO,foldl_cons->aP,getD->aV,getElem?_eq_none->aJ
open Array renaming getD_eq_getD_getElem?->aQ,foldl_toList->aS,getElem?_eq_getElem->aU,getD->aY,getElem?_setIfInBounds_ne->aZ
open Option renaming getD_some->aR,bind_some->aW,map_some->bA
open Bool renaming or_eq_true->aT,false_eq_true->aA,not_eq_true'->bB
open Nat renaming le_refl->aX,zero_le->bC
set_option linter.all false
namespace Go.GD
open Go
variable {G:List bd}{M N c d i j k l r:Nat}{P:Program}{R R':Rows}{a:Act}{c0:Ctx}{dt:Nat->Bool}{o x y:Oper}{ops:Array Oper}{w w0:World}
structure Chain(P:Program)(G:List bd)(N M:Nat)(ops:Array Oper)(s:Nat->St)(ks:Nat->List Nat)(val:Nat->D):Prop where
 op:∀(i:Nat) (o:Oper),ops[i]?=some o->oc P G M ops o (s i).env (s i).rows (ks i) (val i) (s (i+1)).rows
 env:∀(i:Nat) (o:Oper) (t:Nat),ops[i]?=some o->look (s (i+1)).env t=if o.dst=some t then val i else look (sL (ks i) (s i).env) t
 dst:∀(i:Nat) (o:Oper) (t:Nat),ops[i]?=some o->o.dst=some t->t<N
theorem Zww{P:Program}{T:iz}(hT:jC P T){G:List bd}(hG:jU P G){N M:Nat}{ops:Array Oper}{K:St->Prop}:∀(l:List Oper) (k:Nat) (st:St),ops.toList.drop k=l->mG T G N M ops l st K->
 ∃ (s:Nat->St) (ks:Nat->List Nat) (val:Nat->D),s k=st/\K (s (k+l.length))/\(∀(i:Nat) (o:Oper),k<=i->ops[i]?=some o->oc P G M ops o (s i).env (s i).rows (ks i) (val i) (s (i+1)).rows)/\
  (∀(i:Nat) (o:Oper) (t:Nat),k<=i->ops[i]?=some o->look (s (i+1)).env t=if o.dst=some t then val i else look (sL (ks i) (s i).env) t)/\(∀(i:Nat) (o:Oper) (t:Nat),k<=i->ops[i]?=some o->o.dst=some t->t<N)
 |[],k,st,hk,h=>by
  have hlen:ops.size<=k:=by
   have:=congrArg List.length hk
   simp at this;omega
  have no:∀(i:Nat) (o:Oper),k<=i->ops[i]?=some o->False:=λi o hi ho=>by
   have:=(Array.getElem?_eq_some_iff.1 ho).1;omega
  exact⟨λ_=>st,λ_=>[],λ_=>.dead,rfl,h,λi o hi ho=>(no i o hi ho).elim,λi o t hi ho=>(no i o hi ho).elim,λi o t hi ho=>(no i o hi ho).elim⟩
 |o ::l,k,st,hk,h=>by
  have bc:k<ops.toList.length:=by
   by_cases bc:k<ops.toList.length
   ·exact bc
   ·rw[aN (by omega)]at hk;cases hk
  rw[aO bc]at hk
  have ho:ops[k]?=some o:=by
   have:=(List.cons.inj hk).1
   rw[<-this]
   simp at bc
   simp[bc]
  obtain⟨kk,v,R',iV,h1,h2,h3,h4⟩:=Yd hT hG h
  obtain⟨s,ks,val,g1,g2,g3,g4,g5⟩:=Zww hT hG l (k+1) _ (List.cons.inj hk).2 h4
  refine⟨λi=>if i=k then st else s i,λi=>if i=k then kk else ks i,λi=>if i=k then v else val i,by simp,?_,λi p hi hp=>?_,λi p t hi hp=>?_,λi p t hi hp hd=>?_⟩
  ·simp only[List.length_cons]
   rw[if_neg (by omega),show k+(l.length+1)=k+1+l.length by omega]
   exact g2
  ·by_cases e:i=k
   ·subst e
    rw[ho]at hp;cases hp
    simp only[if_true,show¬i+1=i by omega,if_false,g1]
    exact h3
   ·simp only[if_neg e,if_neg (show¬i+1=k by omega)]
    exact g3 i p (by omega) hp
  ·by_cases e:i=k
   ·subst e
    rw[ho]at hp;cases hp
    simp only[if_true,show¬i+1=i by omega,if_false,g1]
    cases uH:o.dst with
    |none=>simp[sM,h1]
    |some u=>simp only[sM,BF,Option.some.injEq,h1]
   ·simp only[if_neg e,if_neg (show¬i+1=k by omega)]
    exact g4 i p t (by omega) hp
  ·by_cases e:i=k
   ·subst e
    rw[ho]at hp;cases hp
    exact h2 t hd
   ·exact g5 i p t (by omega) hp hd
theorem Zaz(ops:Array Oper): ∀(l:List Oper) (acc:Array Nat),(∀k,acc.size<=k-> ∀i,(acc.getD k 0).testBit i=false)->
    ∀(av:Nat->Prop),(∀(j:Nat) (hj:j<acc.size) (i:Nat),(∀o,ops[j]? =some o-> ∀e∈o.after,Region.binds .any e=true->av e.on)->(acc.getD j 0).testBit i=true->av i)->
    (∀j,av j-> ∀o,ops[j]? =some o-> ∀e∈o.after,Region.binds .any e=true->av e.on)->ops.toList.drop acc.size=l->
    ∀ (j i:Nat),(∀o,ops[j]? =some o-> ∀e∈o.after,Region.binds .any e=true->av e.on)->
      ((l.foldl (λ(acc:Array Nat) o=>acc.push (o.after.foldl (λs e=>if Region.binds .any e then s|||2^e.on|||acc.getD e.on 0 else s) 0)) acc).getD j 0).testBit i=true->av i
  | [],acc,hz,av,Fl,jH,hl,j,i,hj,h=>by
    simp only[List.foldl_nil]at h
    by_cases bc:j<acc.size
    . exact Fl j bc i hj h
    . rw[hz j (by omega) i]at h;cases h
  | o :: l, acc,hz,av,Fl,jH,hl,j,i,hj,h=>by
    simp only[aP]at h
    have bc:acc.size<ops.toList.length:=by
      by_cases bc:acc.size<ops.toList.length
      . exact bc
      . rw[aN (by omega)]at hl;cases hl
    rw[aO bc]at hl
    have ho:ops[acc.size]? =some o:=by
      rw[<-(List.cons.inj hl).1]
      simp at bc
      simp [bc]
    refine Zaz ops l _ (λk hk i=> ?_) av (λk hk i wT hb=> ?_) jH (by simpa using(List.cons.inj hl).2) j i hj h
    . simp at hk
      rw[aQ,Array.getElem?_eq_none (by simp;omega)]
      simp
    . simp only [Array.size_push]at hk
      by_cases e:k=acc.size
      . subst e
        rw[aQ,Array.getElem?_push_size,aR]at hb
        have jf:=wT o ho
        rw[<-aS]at hb
        have fold: ∀(es:List Edge) (s0:Nat),(∀e∈es,Region.binds .any e=true->av e.on)->(s0.testBit i=true->av i)->(es.foldl (λs e=>if Region.binds .any e then s|||2^e.on|||acc.getD e.on 0 else s) s0).testBit i=true->av i:=by
          intro es
          induction es with
          |nil=>intro s0 _ h0 hb;exact h0 hb
          | cons e es ih=>
            intro s0 he h0 hb
            simp only[aP]at hb
            refine ih _ (λe' AL=>he e' (by simp [AL])) (λhs=> ?_) hb
            split at hs
            . rename_i Oq
              have hle:=he e (by simp) Oq
              simp only[Nat.testBit_or,aT,Nat.testBit_two_pow,decide_eq_true_eq]at hs
              rcases hs with(hs|hs)|hs
              . exact h0 hs
              . rw[<-hs];exact hle
              . by_cases bc:e.on<acc.size
                . exact Fl e.on bc i (jH e.on hle) hs
                . rw[hz e.on (by omega) i]at hs;cases hs
            . exact h0 hs
        exact fold o.after.toList 0 (λe he hb=>jf e (by simpa using he) hb) (by simp) hb
      . have nu:k<acc.size:=by omega
        rw[aQ,Array.getElem?_push_lt nu,<-aU nu,<-aQ]at hb
        exact Fl k nu i wT hb
theorem Ut{av:Nat->Prop}(jH:∀j,av j->∀o,ops[j]?=some o->∀e∈o.after,Region.binds .any e=true->av e.on)
 (hj:∀o,ops[j]?=some o->∀e∈o.after,Region.binds .any e=true->av e.on) (h:((Region.before ops).getD j 0).testBit i=true):av i:=by
 refine Zaz ops ops.toList #[] (λk _ i=>by simp) av (λj hj=>by simp at hj) jH (by simp) j i hj ?_
 have:Region.before ops=ops.toList.foldl (λ(acc:Array Nat) o=>acc.push (o.after.foldl (λs e=>if Region.binds .any e then s|||2^e.on|||acc.getD e.on 0 else s) 0)) #[]:=by
  unfold Region.before
  rw[<-aS]
 rw[<-this];exact h
theorem Ot(h:Zd G ops=true)(Lp:i<j)(hx:ops[i]?=some x)(hy:ops[j]?=some y):
 (x.apart ops y=true\/((Region.before ops).getD j 0).testBit i=true)/\((lO G x.op=true/\lO G y.op=true)\/((Region.before ops).getD j 0).testBit i=true):=by
 have hj:=(Array.getElem?_eq_some_iff.1 hy).1
 have h1:=List.all_eq_true.1 h j (List.mem_range.2 hj)
 simp only[aE]at h1
 have h2:=List.all_eq_true.1 h1.2 i (List.mem_range.2 Lp)
 unfold Cr at h2
 simp only[hx,hy,aE,aT]at h2
 exact h2
theorem Zsr(h:Zd G ops=true)(hy:ops[j]?=some y):∀e∈y.after,Region.binds .any e=true->e.on<j:=by
 have hj:=(Array.getElem?_eq_some_iff.1 hy).1
 have h1:=List.all_eq_true.1 h j (List.mem_range.2 hj)
 simp only[aE,hy]at h1
 intro e he hb
 have:=Array.all_eq_true'.1 h1.1 e he
 simp only[hb,Bool.not_true,Bool.false_or]at this
 exact lE this
theorem Ye{o:Op}(h:lO G o=true):sN G o=false:=by
 simpa[lO]using h
theorem Yf{env:List (Nat×D)}{ks:List Nat}{v:D}(h:oc P G M ops o env R ks v R')(hq:lO G o.op=true):ks=[]/\∃news,R'=R++news:=by
 have one:ry P G M o (cw env) R ks v R'->ks=[]/\∃news,R'=R++news:=λh=>by
  unfold ry at h
  rw[Ye hq]at h
  exact⟨h.1,h.2.1⟩
 unfold oc at h
 split at h
 ·exact one h
 ·obtain⟨g,_,⟨b,_,h⟩|⟨_,h⟩⟩:=h
  ·split at h
   ·exact one h
   ·exact⟨h.1,[],by rw[h.2.2];simp⟩
  ·exact⟨h.1,[],by rw[h.2.2];simp⟩
def jv(ops:Array Oper)(s:Nat->St)(val:Nat->D)(dt:Nat->Bool)(c:Nat):Nat->Nat->D
 |0,t=>look (s c).env t
 |n+1,t=>if dt (c+n)=true/\(ops[c+n]?).bind (·.dst)=some t then val (c+n)else jv ops s val dt c n t
def kS(s:Nat->St)(dt:Nat->Bool)(c:Nat):Nat->Nat->Option Row
 |0,r=>(s c).rows.getD r none
 |n+1,r=>if dt (c+n)=true/\(s (c+n)).rows.length<=r/\r<(s (c+n+1)).rows.length then(s (c+n+1)).rows.getD r none else kS s dt c n r
theorem Chain.Fm{s:Nat->St}{ks:Nat->List Nat}{val:Nat->D}(hc:Chain P G N M ops s ks val)(ho:ops[i]?=some o)(hq:lO G o.op=true)(t:Nat):look (s (i+1)).env t=if o.dst=some t then val i else look (s i).env t:=by
 rw[hc.env i o t ho,(Yf (hc.op i o ho) hq).1,pq]
theorem Ls.toW{c c':Ctx}{w w':World}(hs:Ls c w R R' c' w'):mn c w c' w':=
 ⟨hs.mem,hs.cz,hs.fr.mono (λb _ hf=>hf.elim),hs.fk,λr aq rz hv=>by
  by_cases h1:R.length<=r/\r<R'.length
  ·exact .inr (hs.new r h1.1 h1.2 hv)
  ·rw[hs.rows,if_neg h1]at rz
   obtain⟨h2,h3⟩:=hs.jW r (by omega)
   exact .inl ⟨⟨_,rz⟩,λe=>hv (h3.2 e),h2⟩⟩
theorem Qtg{R news:Rows}(h:r<R.length):(R++news).getD r none=R.getD r none:=by
 simp[aV,List.getElem?_append_left h]
section
variable {P:Program} {G:List bd} {N M:Nat} {ops:Array Oper} {s:Nat->St} {ks:Nat->List Nat} {val:Nat->D} (hc:Chain P G N M ops s ks val) (lZ:Zd G ops=true)
include hc
theorem Zbv(hq:∀(i:Nat) (o:Oper),c<=i->i<d->ops[i]?=some o->lO G o.op=true)(hd:d<=ops.size)(hk:c<=k):∀{l:Nat},k<=l->l<=d->∃news,(s l).rows=(s k).rows++news:=by
 intro l hl
 induction l with
 |zero=>intro _;exact⟨[],by rw[show k=0 by omega];simp⟩
 |succ l ih=>
  intro Ew
  by_cases e:k=l+1
  ·exact⟨[],by rw[e];simp⟩
  ·obtain⟨n1,h1⟩:=ih (by omega) (by omega)
   have ho:ops[l]?=some ops[l]:=aU (by omega)
   obtain⟨_,n2,h2⟩:=Yf (hc.op l _ ho) (hq l _ (by omega) (by omega) ho)
   exact⟨n1++n2,by rw[h2,h1,List.append_assoc]⟩
theorem Lt(hq:∀(i:Nat) (o:Oper),c<=i->i<d->ops[i]?=some o->lO G o.op=true)(hd:d<=ops.size)(hk:c<=k)(hl:k<=l)(Ew:l<=d):(s k).rows.length<=(s l).rows.length:=by
 obtain⟨n,h⟩:=Zbv hc hq hd hk hl Ew
 rw[h];simp
theorem Lu(hq:∀(i:Nat) (o:Oper),c<=i->i<d->ops[i]?=some o->lO G o.op=true)(hd:d<=ops.size)(hk:c<=k)(hl:k<=l)(Ew:l<=d)(hr:r<(s k).rows.length):(s l).rows.getD r none=(s k).rows.getD r none:=by
 obtain⟨n,h⟩:=Zbv hc hq hd hk hl Ew
 rw[h,Qtg hr]
theorem Uu{dt:Nat->Bool}{c d:Nat}(hq:∀(i:Nat) (o:Oper),c<=i->i<d->ops[i]?=some o->lO G o.op=true)(hd:d<=ops.size):∀{n:Nat},c+n<=d->(∀i,i<n->dt (c+i)=true)->∀t,jv ops s val dt c n t=look (s (c+n)).env t
 |0,_,_,t=>rfl
 |n+1,hn,hl,t=>by
  have ho:ops[c+n]?=some ops[c+n]:=aU (by omega)
  simp only[jv,hl n (by omega),true_and,ho,aW]
  rw[show c+(n+1)=(c+n)+1 by omega,hc.Fm ho (hq _ _ (by omega) (by omega) ho) t]
  split
  ·rfl
  ·exact Uu hq hd (by omega) (λi hi=>hl i (by omega)) t
theorem Uv{dt:Nat->Bool}{c d:Nat}(hq:∀(i:Nat) (o:Oper),c<=i->i<d->ops[i]?=some o->lO G o.op=true)(hd:d<=ops.size):∀{n:Nat},c+n<=d->(∀i,i<n->dt (c+i)=true)->∀r,kS s dt c n r=(s (c+n)).rows.getD r none
 |0,_,_,r=>rfl
 |n + 1,hn,hl,r=>by
  simp only[kS,hl n (by omega),true_and]
  rw[show c+(n+1)=c+n+1 by omega]
  split
  ·rfl
  ·rename_i h1
   rw[Uv hq hd (by omega) (λi hi=>hl i (by omega)) r]
   by_cases h2:r<(s (c+n)).rows.length
   ·exact(Lu hc hq hd (by omega) (by omega) (by omega) h2).symm
   ·have hlen:=Lt hc hq hd (show c<=c+n by omega) (show c+n<=c+n+1 by omega) (by omega)
    simp only[aV]
    rw[aJ (by omega),aJ (by omega)]
end
theorem Uw{ops:Array Oper}{s:Nat->St}{val:Nat->D}{dt:Nat->Bool}{c:Nat}:∀{n:Nat},(∀i,i<n->dt (c+i)=false)->∀t,jv ops s val dt c n t=look (s c).env t
 |0,_,t=>rfl
 |n+1,hl,t=>by
  simp only[jv,hl n (by omega),aA,false_and,if_false]
  exact Uw (λi hi=>hl i (by omega)) t
theorem Ux{s:Nat->St}{dt:Nat->Bool}{c:Nat}:∀{n:Nat},(∀i,i<n->dt (c+i)=false)->∀r,kS s dt c n r=(s c).rows.getD r none
 |0,_,r=>rfl
 |n+1,hl,r=>by
  simp only[kS,hl n (by omega),aA,false_and,if_false]
  exact Ux (λi hi=>hl i (by omega)) r
theorem Uy{ops:Array Oper}{s:Nat->St}{val:Nat->D}{dt gj:Nat->Bool}{c:Nat}:∀{n:Nat},(∀i,i<n->gj (c+i)=dt (c+i))->∀t,jv ops s val gj c n t=jv ops s val dt c n t
 |0,_,t=>rfl
 |n+1,hl,t=>by simp only[jv,hl n (by omega),Uy (n:=n) (λi hi=>hl i (by omega)) t]
theorem Uz{s:Nat->St}{dt gj:Nat->Bool}{c:Nat}:∀{n:Nat},(∀i,i<n->gj (c+i)=dt (c+i))->∀r,kS s gj c n r=kS s dt c n r
 |0,_,r=>rfl
 |n+1,hl,r=>by simp only[kS,hl n (by omega),Uz (n:=n) (λi hi=>hl i (by omega)) r]
theorem Yg{ops:Array Oper}{s:Nat->St}{val:Nat->D}{dt gj:Nat->Bool}{c i:Nat}{o:Oper}(ho:ops[i]? =some o)(rA:c<=i)(h0:dt i=false)(h1:gj i=true)(h2: ∀k,k≠i->gj k=dt k){t:Nat}
    (sO: ∀k o',i<k->dt k=true->ops[k]? =some o'->o'.dst=some t->o.dst=some t->False): ∀{n:Nat},i<c+n->jv ops s val gj c n t=if o.dst=some t then val i else jv ops s val dt c n t
  |0,h=>by omega
  | n + 1,h=>by
    by_cases e:i=c+n
    . simp only[jv,<-e,h0,h1,ho,aW,true_and,aA,false_and,if_false]
      split
      . rfl
      . exact Uy (λk hk=>h2 _ (by omega)) t
    . simp only[jv,h2 (c+n) (λe'=>e e'.symm)]
      rw[Yg ho rA h0 h1 h2 sO (n:=n) (by omega)]
      by_cases g:dt (c+n)=true/\(ops[c+n]?).bind (·.dst)=some t
      . by_cases hd:o.dst=some t
        . exfalso
          obtain⟨g1,g2⟩:=g
          cases hk:ops[c+n]? with
          |none=>rw[hk]at g2;cases g2
          | some o'=>
            rw[hk]at g2
            exact sO (c+n) o' (by omega) g1 hk g2 hd
        . rw[if_pos g,if_neg hd,if_pos g]
      . rw[if_neg g,if_neg g]
theorem Yh{s:Nat->St}{dt gj:Nat->Bool}{c i:Nat}(rA:c<=i)(h0:dt i=false)(h1:gj i=true)(h2:∀k,k≠i->gj k=dt k){r d:Nat}
 (hlen:∀k,i<k->k<d->(s (i+1)).rows.length<=(s k).rows.length):∀{n:Nat},i<c+n->c+n<=d->kS s gj c n r=if(s i).rows.length<=r/\r<(s (i+1)).rows.length then(s (i+1)).rows.getD r none else kS s dt c n r
 |0,h,_=>by omega
 |n +1,h,hn=>by
  by_cases e:i=c+n
  ·simp only[kS,<-e,h0,h1,true_and,aA,false_and,if_false]
   split
   ·rfl
   ·exact Uz (λk hk=>h2 _ (by omega)) r
  ·simp only[kS,h2 (c+n) (λe'=>e e'.symm)]
   rw[Yh rA h0 h1 h2 hlen (n:=n) (by omega) (by omega)]
   have:=hlen (c+n) (by omega) (by omega)
   by_cases g:dt (c+n)=true/\(s (c+n)).rows.length<=r/\r<(s (c+n+1)).rows.length
   ·rw[if_pos g,if_neg (by omega),if_pos g]
   ·rw[if_neg g,if_neg g]
theorem G9(h:x.apart ops y=true){t:Nat}:(x.dst=some t->y.dst≠some t)/\(x.dst=some t->t∉y.looksAt ops)/\(y.dst=some t->t∉x.looksAt ops):=by
 obtain⟨h1,h2,h3⟩:=Oper.apart_spec h
 exact⟨λe=>h2 t e,λe=>h1 t e,λe=>h3 t e⟩
structure Inv(P:Program)(G:List bd)(N M:Nat)(ops:Array Oper)(s:Nat->St)(val:Nat->D)(c0:Ctx)(w0:World)(dt:Nat->Bool)(a:Act)(w:World)(c d:Nat):Prop where
 cd:c<=d
 dn:d<=ops.size
 pre:∀i,i<c->dt i=true
 post:∀i,d<=i->dt i=false
 quiet:∀(i:Nat) (o:Oper),c<=i->i<d->ops[i]?=some o->lO G o.op=true
 wr:∀(o:Oper),ops[d]?=some o->lO G o.op=false
 closed:∀j,dt j=true->∀(o:Oper),ops[j]?=some o->∀e∈o.after,Region.binds .any e=true->dt e.on=true
 size:N<=a.tmps.size
 defers:mH w0.heap.size w a.defers
 gg:c0.base<=w0.heap.size
 ib:∀r row,c0.R r=some row->r<M
 ctx:∃cx,Mem cx w/\(∀r,cx.R r=kS s dt c (d-c) r)/\(∀t,Rep cx w (jv ops s val dt c (d-c) t) (a.tmps.getD t undef))/\AM c0 w0 cx w
theorem Ou(G:List bd)(ops:Array Oper):∀(n c:Nat),ops.size-c=n->c<=ops.size->∃d,c<=d/\d<=ops.size/\(∀(i:Nat) (o:Oper),c<=i->i<d->ops[i]?=some o->lO G o.op=true)/\(∀(o:Oper),ops[d]?=some o->lO G o.op=false)
 |0,c,h,hc=>⟨c,aX _,hc,λi o h1 h2=>by omega,λo ho=>by
  have:=(Array.getElem?_eq_some_iff.1 ho).1;omega⟩
 |n +1,c,h,hc=>by
  have ho:ops[c]?=some ops[c]:=aU (by omega)
  cases hq:lO G ops[c].op with
  |false=>exact⟨c,aX _,hc,λi o h1 h2=>by omega,λo h'=>by rw[ho]at h';cases h';exact hq⟩
  |true=>
   obtain⟨d,h1,h2,h3,h4⟩:=Ou G ops n (c+1) (by omega) (by omega)
   refine⟨d,by omega,h2,λi o hi hid h'=>?_,h4⟩
   by_cases e:i=c
   ·subst e;rw[ho]at h';cases h';exact hq
   ·exact h3 i o (by omega) hid h'
section
variable {P:Program} {G:List bd} {N M:Nat} {ops:Array Oper} {s:Nat->St} {ks:Nat->List Nat} {val:Nat->D} (hc:Chain P G N M ops s ks val) (lZ:Zd G ops=true)
include hc lZ
theorem xH{dt gj:Nat->Bool}(hI:Inv P G N M ops s val c0 w0 dt a w c d)(ho:ops[i]?=some o)(h0:dt i=false)(h1:gj i=true)(h2:∀k,k≠i->gj k=dt k)
 (Ov:∀e∈o.after,Region.binds .any e=true->dt e.on=true) {K:Act->World->Prop} {Q:Exit->Act->World->Prop} (hK:∀a' w' c' d',Inv P G N M ops s val c0 w0 gj a' w' c' d'->K a' w'):wpOp P ops Q i K a w:=by
 have bc:=(Array.getElem?_eq_some_iff.1 ho).1
 have rS:∀k,((Region.before ops).getD i 0).testBit k=true->dt k=true:=λk hk=>
  Ut (av:=λk=>dt k=true) hI.closed (λo' jI=>by rw[ho]at jI;cases jI;exact Ov) hk
 have oI:∀j k,dt j=true->((Region.before ops).getD j 0).testBit k=true->dt k=true:=λj k hj hk=>
  Ut (av:=λk=>dt k=true) hI.closed (hI.closed j hj) hk
 have rA:c<=i:=by
  by_cases h:c<=i
  ·exact h
  ·rw[hI.pre i (by omega)]at h0;cases h0
 have uJ:∀j,gj j=true->∀(o:Oper),ops[j]?=some o->∀e∈o.after,Region.binds .any e=true->gj e.on=true:=by
  intro j hj o' jI e he hb
  have ia:dt e.on=true:=by
   by_cases e':j=i
   ·subst e';rw[ho]at jI;cases jI;exact Ov e he hb
   ·rw[h2 j e']at hj;exact hI.closed j hj o' jI e he hb
  rw[h2 e.on (λe'=>by rw[e',h0]at ia;cases ia)]
  exact ia
 have hid:i<=d:=by
  by_cases h:i<=d
  ·exact h
  ·exfalso
   have Cs:ops[d]?=some ops[d]:=aU (by omega)
   have:=(Ot lZ (show d<i by omega) Cs ho).2
   rcases this with⟨hq,_⟩|hb
   ·rw[hI.wr _ Cs]at hq;cases hq
   ·have:=rS d hb
    rw[hI.post d (aX _)]at this;cases this
 obtain⟨cx,hm,hR,hE,oJ⟩:=hI.ctx
 by_cases e:i=d
 ·
  subst e
  have jf:∀k,k<i-c->dt (c+k)=true:=λk hk=>by
   have dx:ops[c+k]?=some ops[c+k]:=aU (by omega)
   have:=(Ot lZ (show c+k<i by omega) dx ho).2
   rcases this with⟨_,hq⟩|hb
   ·rw[hI.wr _ ho]at hq;cases hq
   ·exact rS _ hb
  have hs:fq N M c0 w0 cx w (s i) a:=by
   refine⟨hm,λr=>?_,λt=>?_,hI.size,hI.defers,hI.gg,hI.ib,oJ⟩
   ·rw[hR,Uv hc hI.quiet hI.dn (by omega) jf]
    rw[show c+(i-c)=i by omega]
   ·have:=hE t
    rw[Uu hc hI.quiet hI.dn (by omega) jf]at this
    rwa [show c+(i-c)=i by omega]at this
  refine y6 ho hs (λ_=>rfl) (λt=>hc.dst i o t ho) (hc.op i o ho) λa' w' c' jk=>?_
  obtain⟨d',g1,g2,g3,g4⟩:=Ou G ops _ (i+1) rfl (by omega)
  have sO:∀k,k<d'-(i+1)->gj (i+1+k)=false:=λk hk=>by
   rw[h2 _ (by omega)];exact hI.post _ (by omega)
  refine hK a' w' (i+1) d' ⟨g1,g2,λk hk=>?_,λk hk=>?_,g3,g4,uJ,jk.size,jk.defers,jk.gg,jk.ib,c',jk.mem,λr=>?_,λt=>?_,jk.reach⟩
  ·by_cases e':k=i
   ·rw[e'];exact h1
   ·rw[h2 k e']
    by_cases Yi:k<c
    ·exact hI.pre k Yi
    ·have:=jf (k-c) (by omega)
     rwa [show c+(k-c)=k by omega]at this
  ·rw[h2 k (by omega)];exact hI.post k (by omega)
  ·rw[Ux sO];exact jk.rows r
  ·rw[Uw sO,hc.env i o t ho]
   have:=jk.env t
   cases hd:o.dst with
   |none=>simpa[sM,hd]using this
   |some u=>simpa only[sM,hd,BF,Option.some.injEq]using this
 ·
  have I5:i<d:=by omega
  have hq:=hI.quiet i o rA I5 ho
  have Ow:=Ye hq
  have I6 :∀t∈o.looksAt ops,∀n,c+n<=d->jv ops s val dt c n t=if c+n<=i then look (s (c+n)).env t else look (s i).env t:=by
   intro t ht n
   induction n with
   |zero=>intro _;simp only[jv,Nat.add_zero];rw[if_pos rA]
   |succ n ih=>
    intro hn
    have I7:=hI.dn
    obtain⟨ok,dx⟩:∃ok,ops[c+n]?=some ok:=⟨_,aU (show c+n<ops.size by omega)⟩
    have ih:=ih (by omega)
    simp only[jv,dx,aW]
    by_cases hk:c+n<i
    ·have hA:c+(n+1)<=i:=by omega
     have UA:c+n<=i:=by omega
     rw[if_pos hA,show c+(n+1)=c+n+1 by omega,hc.Fm dx (hI.quiet _ _ (by omega) (by omega) dx) t]
     rw[if_pos UA]at ih
     by_cases hd:ok.dst=some t
     ·have hl:dt (c+n)=true:=by
       rcases(Ot lZ hk dx ho).1 with uK|hb
       ·exact((G9 uK).2.1 hd ht).elim
       ·exact rS _ hb
      rw[if_pos ⟨hl,hd⟩,if_pos hd]
     ·rw[if_neg (λg=>hd g.2),if_neg hd,ih]
    ·have I8:¬(dt (c+n)=true/\ok.dst=some t):=by
      rintro⟨g1,g2⟩
      by_cases e':c+n=i
      ·rw[e',h0]at g1;cases g1
      ·have oK:i<c+n:=by omega
       rcases(Ot lZ oK ho dx).1 with uK|hb
       ·exact(G9 uK).2.2 g2 ht
       ·have:=oI _ _ g1 hb
        rw[h0]at this;cases this
     have hA:¬c+(n+1)<=i:=by omega
     rw[if_neg I8,ih,if_neg hA]
     split
     ·rw[show c+n=i by omega]
     ·rfl
  have Ox:∀t∈o.looksAt ops,Rep cx w (look (s i).env t) (a.tmps.getD t undef):=λt ht=>by
   have:=hE t
   rw[I6 t ht (d-c) (by omega),if_neg (by omega)]at this
   exact this
  have hlen:∀k l,c<=k->k<=l->l<=d->(s k).rows.length<=(s l).rows.length:=λk l h1 h2 h3=>Lt hc hI.quiet hI.dn h1 h2 h3
  have iy:∀k l,c<=k->k<=l->l<=d->∀r,r<(s k).rows.length->(s l).rows.getD r none=(s k).rows.getD r none:=λk l h1 h2 h3 r hr=>Lu hc hI.quiet hI.dn h1 h2 h3 hr
  have Ct:∀n,c+n<=d->∀r,r<(s i).rows.length->∀row,kS s dt c n r=some row->(s i).rows.getD r none=some row:=by
   intro n
   induction n with
   |zero=>
    intro _ r hr row h
    simp only[kS]at h
    by_cases Yj:r<(s c).rows.length
    ·rw[iy c i (aX _) rA (by omega) r Yj];exact h
    ·simp only[aV,aJ (show(s c).rows.length<=r by omega)]at h;cases h
   |succ n ih=>
    intro hn r hr row h
    simp only[kS]at h
    split at h
    ·rename_i g
     obtain⟨g1,g2,g3⟩:=g
     have Yk:c+n<i:=by
      by_cases nu:c+n<i
      ·exact nu
      ·by_cases e':c+n=i
       ·rw[e',h0]at g1;cases g1
       ·have:=hlen i (c+n) rA (by omega) (by omega);omega
     rw[iy (c+n+1) i (by omega) (by omega) (by omega) r g3];exact h
    ·exact ih (by omega) r hr row h
  have Cu:∀n,c+n<=d->∀r,(s i).rows.length<=r->r<(s (i+1)).rows.length->kS s dt c n r=none:=by
   intro n
   induction n with
   |zero=>
    intro _ r h1 h2
    have:=hlen c i (aX _) rA (by omega)
    simp only[kS,aV,aJ (show(s c).rows.length<=r by omega),Option.getD_none]
   |succ n ih=>
    intro hn r h1 h2
    simp only[kS]
    rw[if_neg]
    ·exact ih (by omega) r h1 h2
    ·rintro⟨g1,g2,g3⟩
     by_cases e':c+n=i
     ·rw[e',h0]at g1;cases g1
     ·by_cases nu:c+n<i
      ·have:=hlen (c+n+1) i (by omega) (by omega) (by omega);omega
      ·have:=hlen (i+1) (c+n) (by omega) (by omega) (by omega);omega
  have jD:cx.base<=w.heap.size:=by rw[oJ.cz.base];exact Nat.le_trans hI.gg oJ.fr.size
  have pJ:mN cx (s i).rows:=λr row aq g1 g2=>by
   have hr:r<(s i).rows.length:=by
    by_cases h:r<(s i).rows.length
    ·exact h
    ·simp only[aV,aJ (show(s i).rows.length<=r by omega)]at g2;cases g2
   rw[hR]at g1
   have:=Ct (d-c) (by omega) r hr row g1
   rw[this]at g2;exact Option.some.inj g2
  have fin:∀v w' c',Ls cx w (s i).rows (s (i+1)).rows c' w'->Rep c' w' (val i) v->K (a.put o.dst v) w':=by
   intro v w' c' hn hv
   refine hK _ w' c d ⟨hI.cd,hI.dn,λk hk=>by rw[h2 k (by omega)];exact hI.pre k hk,λk hk=>by rw[h2 k (by omega)];exact hI.post k hk,hI.quiet,hI.wr,uJ,?_,?_,hI.gg,hI.ib,c',hn.mem,λr=>?_,λt=>?_,oJ.step (ks:=[]) (λk hk=>by simp[da]at hk) hI.ib hn.toW.toK⟩
   ·cases hd:o.dst<;>simp[Act.put]<;>exact hI.size
   ·first|exact mH.put (hI.defers.step hm hn.fr)|exact mH.put (hI.defers.step hm hn.toW.fr)
   ·rw[hn.rows,hR,Yh rA h0 h1 h2 (d:=d) (λk nL so=>hlen (i+1) k (by omega) (by omega) (by omega)) (by omega) (by omega)]
   ·have hl:∀k o',i<k->dt k=true->ops[k]?=some o'->o'.dst=some t->o.dst=some t->False:=by
     intro k o' oK hk dx Ok Yl
     rcases(Ot lZ oK ho dx).1 with uK|hb
     ·exact(G9 uK).1 Yl Ok
     ·have:=oI _ _ hk hb
      rw[h0]at this;cases this
    rw[Yg ho rA h0 h1 h2 hl (by omega)]
    have hold:=AN hn.cz (hE t)
    cases hd:o.dst with
    |none=>simpa[Act.put,hd]using hold
    |some u=>
     have hu:=hc.dst i o u ho hd
     simp only[Act.put,Option.some.injEq]
     by_cases e':u=t
     ·subst e'
      have nu:u<a.tmps.size:=Nat.lt_of_lt_of_le hu hI.size
      rw[if_pos rfl]
      simpa[aY,nu]using hv
     ·rw[if_neg e']
      simpa[aZ e']using hold
  have skip:val i=.dw []->(s (i+1)).rows=(s i).rows->K (a.put o.dst undef) w:=λe1 e2=>
   fin undef w cx ⟨hm,ju.refl _ _,Fr.refl _ _,λb hb=>.inl hb,λr=>by rw[e2,if_neg (by omega)],λ_ _=>⟨rfl,Iff.rfl⟩,λr g1 g2=>by rw[e2]at g2;omega⟩ (by rw[e1];exact UB _ _)
  have run:ry P G M o (cw (s i).env) (s i).rows (ks i) (val i) (s (i+1)).rows->o.nM P a w K Q:=λhX=>by
   unfold ry at hX
   rw[Ow]at hX
   refine hX.2.2 cx w a hm jD pJ (λr g1 g2=>by rw[hR];exact Cu (d-c) (by omega) r g1 g2) (λx hx=>?_) K Q fin
   cases x with
   |tmp t=>
    refine Ox t ?_
    unfold Oper.looksAt
    exact List.mem_append_left _ (List.mem_filterMap.2 ⟨.tmp t,by simpa using hx,rfl⟩)
   |const v=>
    simp only[cw,Act.eval]
    cases hv:Zn v with
    |none=>trivial
    |some d=>exact Oy hv cx w
   |global g=>trivial
   |func f=>exact Lv f
  have hG:=hc.op i o ho
  unfold wpOp
  simp only[ho]
  unfold oc at hG
  cases hg:o.guard with
  |none=>
   simp only[hg]at hG
   have hw:Region.wanted o (yielded ops a.tmps)=true:=by simp[Region.wanted,hg]
   rw[if_pos hw]
   exact run hG
  |some jw=>
   obtain⟨j,want⟩:=jw
   simp only[hg]at hG
   obtain⟨g,g2,hG⟩:=hG
   have hr:=Ox g (by
    unfold Oper.looksAt
    refine List.mem_append_right _ ?_
    simp only[hg,g2];simp)
   rcases hG with⟨b,g3,g4⟩|⟨g3,_,e1,e2⟩
   rotate_left
   ·rw[g3]at hr
    rw[if_neg (by rw[UC (o:=o) hg g2 hr];simp)]
    exact skip e1 e2
   rw[g3]at hr
   have hw:=UD (o:=o) hg g2 hr
   by_cases e':b=want
   ·rw[if_pos e']at g4
    rw[if_pos (by rw[hw];simpa using e')]
    exact run g4
   ·rw[if_neg e']at g4
    rw[if_neg (by rw[hw];simpa using e')]
    exact skip g4.2.1 g4.2.2
end
def ny(dt:Nat->Bool):Nat->Nat
 |0=>0
 |n+1=>(if dt n=true then 0 else 1)+ny dt n
theorem Ym(dt:Nat->Bool):∀n,ny dt n<=n
 |0=>aX _
 |n+1=>by have:=Ym dt n;simp only[ny];split<;>omega
theorem Yn{dt:Nat->Bool}:∀{n:Nat},ny dt n=0->∀i,i<n->dt i=true
 |n +1,h,i,hi=>by
  simp only[ny]at h
  by_cases e:i=n
  ·subst e
   cases hl:dt i with
   |true=>rfl
   |false=>rw[hl]at h;simp at h
  ·exact Yn (n:=n) (by omega) i (by omega)
theorem Zvj{dt gj:Nat->Bool}:∀{n:Nat},(∀i,i<n->gj i=dt i)->ny gj n=ny dt n
 |0,_=>rfl
 |n+1,h=>by simp only[ny,h n (by omega),Zvj (n:=n) (λi hi=>h i (by omega))]
theorem Yo{dt gj:Nat->Bool}{i:Nat}(h0:dt i=false)(h1:gj i=true)(h2:∀k,k≠i->gj k=dt k):∀{n:Nat},i<n->ny gj n+1=ny dt n
 |n +1,h=>by
  simp only[ny]
  by_cases e:i=n
  ·subst e
   rw[Zvj (dt:=dt) (gj:=gj) (λk hk=>h2 k (by omega)),h0,h1]
   simp;omega
  ·rw[h2 n (λe'=>e e'.symm)]
   have:=Yo h0 h1 h2 (n:=n) (by omega)
   omega
set_option linter.unusedSectionVars false
section
variable {P:Program} {G:List bd} {N M:Nat} {ops:Array Oper} {s:Nat->St} {ks:Nat->List Nat} {val:Nat->D} (hc:Chain P G N M ops s ks val) (lZ:Zd G ops=true)
include hc lZ
theorem Zvl(hI:Inv P G N M ops s val c0 w0 dt a w c d)(jf:∀i,i<ops.size->dt i=true):∃cx,fq N M c0 w0 cx w (s ops.size) a:=by
 obtain⟨cx,hm,hR,hE,oJ⟩:=hI.ctx
 have hd:d=ops.size:=by
  by_cases h:d<ops.size
  ·have:=jf d h
   rw[hI.post d (aX _)]at this;cases this
  ·have:=hI.dn;omega
 subst hd
 have Yp:=hI.cd
 have hl:∀k,k<ops.size-c->dt (c+k)=true:=λk hk=>jf _ (by omega)
 refine⟨cx,hm,λr=>?_,λt=>?_,hI.size,hI.defers,hI.gg,hI.ib,oJ⟩
 ·rw[hR,Uv hc hI.quiet hI.dn (by omega) hl,show c+(ops.size-c)=ops.size by omega]
 ·have:=hE t
  rw[Uu hc hI.quiet hI.dn (by omega) hl]at this
  rwa [show c+(ops.size-c)=ops.size by omega]at this
theorem zH{Q:Exit->Act->World->Prop}(hQ:∀c w a,fq N M c0 w0 c w (s ops.size) a->Q .normal a w):∀(fuel:Nat) (av:Array Bool) (a:Act) (w:World) (c d:Nat),av.size=ops.size->ny (λi=>av.getD i false) ops.size<=fuel->
 Inv P G N M ops s val c0 w0 (λi=>av.getD i false) a w c d->I9 P .any ops Q fuel av a w:=by
 intro fuel
 have BG:∀(av:Array Bool) (i:Nat),av.size=ops.size->(i∈Region.ready .any ops av↔ ∃o,ops[i]?=some o/\av.getD i false=false/\∀e∈o.after,Region.binds .any e=true->av.getD e.on false=true):=by
  intro av i ga
  unfold Region.ready
  rw[List.mem_filter,List.mem_range]
  constructor
  ·rintro⟨h1,h2⟩
   have ho:ops[i]?=some ops[i]:=aU h1
   simp only[ho,bA,aR,aE,bB]at h2
   refine⟨_,ho,?_,λe he hb=>?_⟩
   ·have hl:i<av.size:=by omega
    have:=h2.1
    simpa[aY,hl]using this
   ·have:=Array.all_eq_true'.1 h2.2 e he
    simpa[hb]using this
  ·rintro⟨o,ho,h1,h2⟩
   have bc:=(Array.getElem?_eq_some_iff.1 ho).1
   refine⟨bc,?_⟩
   simp only[ho,bA,aR,aE,bB]
   have hl:i<av.size:=by omega
   refine⟨by simpa[aY,hl]using h1,Array.all_eq_true'.2 λe he=>?_⟩
   cases hb:Region.binds .any e with
   |false=>rfl
   |true=>simpa[hb]using h2 e he hb
 have kK:∀(av:Array Bool),av.size=ops.size->Region.ready .any ops av=[]->∀i,i<ops.size->av.getD i false=true:=by
  intro av ga he i
  induction i using Nat.strongRecOn with
  |_ i ih=>
   intro hi
   cases hl:av.getD i false with
   |true=>rfl
   |false=>
    exfalso
    have ho:ops[i]?=some ops[i]:=aU hi
    have:i∈Region.ready .any ops av:=(BG av i ga).2 ⟨_,ho,hl,λe AL hb=>by
     have:=Zsr lZ ho e AL hb
     exact ih e.on this (by omega)⟩
    rw[he]at this;cases this
 induction fuel with
 |zero=>
  intro av a w c d ga Cv hI
  have jf:=Yn (dt:=λi=>av.getD i false) (Nat.le_zero.1 Cv)
  refine⟨?_,?_⟩
  ·rw[List.eq_nil_iff_forall_not_mem]
   intro i hi
   obtain⟨o,ho,h1,_⟩:=(BG av i ga).1 hi
   have:=jf i (Array.getElem?_eq_some_iff.1 ho).1
   rw[h1]at this;cases this
  ·obtain⟨cx,hs⟩:=Zvl hc lZ hI jf
   exact hQ cx w a hs
 |succ fuel ih=>
  intro av a w c d ga Cv hI
  refine⟨λhe=>?_,λi hi=>?_⟩
  ·obtain⟨cx,hs⟩:=Zvl hc lZ hI (kK av ga he)
   exact hQ cx w a hs
  ·obtain⟨o,ho,h1,h2⟩:=(BG av i ga).1 hi
   have bc:=(Array.getElem?_eq_some_iff.1 ho).1
   have sP:(av.setIfInBounds i true).getD i false=true:=by
    have hl:i<av.size:=by omega
    simp[aY,hl]
   have sQ:∀k,k≠i->(av.setIfInBounds i true).getD k false=av.getD k false:=λk hk=>by
    rw[aQ,aZ (Ne.symm hk),<-aQ]
   refine xH hc lZ (gj:=λk=>(av.setIfInBounds i true).getD k false) hI ho h1 sP sQ h2 λa' w' c' d' Yq=>?_
   refine ih _ a' w' c' d' (by simpa using ga) ?_ Yq
   have:=Yo (dt:=λk=>av.getD k false) (gj:=λk=>(av.setIfInBounds i true).getD k false) h1 sP sQ bc
   omega
end
theorem fq.drew{c:Ctx}{st:St}(h:fq N M c0 w0 c w st a):fq N M c0 w0 c w.drew st a:=
 ⟨I4 h.mem,h.rows,λt=>AN (Lr c w) (h.env t),h.size,h.defers,h.gg,h.ib,h.reach.step (ks:=[]) (λk hk=>by simp[da]at hk) h.ib
  (mn.toK ⟨I4 h.mem,Lr c w,⟨rfl,rfl,rfl,aX _,λ_ _ _=>rfl⟩,λb hb=>.inl hb,λr row hr v=>.inl ⟨⟨row,hr⟩,v,rfl⟩⟩)⟩
theorem xa(hm:P.follows .mixedOrders=true):∀(ro:Option Nat) (T:iz) (G:List bd) (N M id:Nat) (ops:Array Oper) (st:St) (Q:Ex->St->Prop),jC P T->jU P G->Zd G ops=true->(mG T G N M ops ops.toList st λst=>Q .normal st)->uL ro P N M (.region id ops true) st Q:=by
 intro ro T G N M id ops st Q hT hG hd h c0 w0 c w a hs
 obtain⟨s,ks,val,h1,h2,h3,h4,h5⟩:=Zww hT hG ops.toList 0 st (by simp) h
 have hc:Chain P G N M ops s ks val:=⟨λi o ho=>h3 i o (bC _) ho,λi o t ho=>h4 i o t (bC _) ho,λi o t ho=>h5 i o t (bC _) ho⟩
 have hs:=hs.drew
 refine Z2 hm ?_
 obtain⟨d,g1,g2,g3,g4⟩:=Ou G ops _ 0 rfl (bC _)
 have hz:∀i,(Array.replicate ops.size false).getD i false=false:=λi=>by
  by_cases h:i<ops.size
  ·simp[aY,h]
  ·simp[aY,h]
 refine zH hc hd (Q:=λe a' w'=>∃ex jJ c',nz e=some ex/\Q ex jJ/\fq N M c0 w0 c' w' jJ a') (λc w a jk=>⟨_,_,c,rfl,by simpa using h2,jk⟩) ops.size _ a _ 0 d (by simp) (Ym _ _)
  ⟨g1,g2,λi hi=>by omega,λi _=>hz i,g3,g4,λj hj=>by simp[hz]at hj,hs.size,hs.defers,hs.gg,hs.ib,c,hs.mem,λr=>?_,λt=>?_,hs.reach⟩
 ·rw[Ux (λi _=>hz _),h1];exact hs.rows r
 ·rw[Uw (λi _=>hz _),h1];exact hs.env t
