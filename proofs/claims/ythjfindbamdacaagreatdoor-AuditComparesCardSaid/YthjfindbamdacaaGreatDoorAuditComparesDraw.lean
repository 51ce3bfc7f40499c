import Derived.Test.YthjfindbamdacaaGreatDoorAuditComparesFt
open List renaming drop_eq_nil_of_le->aA,drop_eq_getElem_cons->aB,foldl_cons->aD,getD->aK,getElem?_eq_none->aM
open Array renaming getD_eq_getD_getElem?->aF,foldl_toList->aH,getElem?_eq_getElem->aJ,getD->aP,getElem?_setIfInBounds_ne->aQ
open Option renaming getD_some->aG,bind_some->aL,map_some->aR
open Bool renaming or_eq_true->aI,false_eq_true->aN,not_eq_true'->aS
open Nat renaming le_refl->aO,zero_le->aT
set_option linter.all false
namespace Go.GD
open Go
structure Chain(P:Program)(G:List ba)(N M:Nat)(ops:Array Oper)(s:Nat->St)(ks:Nat->List Nat)(val:Nat->D):Prop where
 op:∀(i:Nat) (o:Oper),ops[i]?=some o->nb P G M ops o (s i).env (s i).rows (ks i) (val i) (s (i+1)).rows
 env:∀(i:Nat) (o:Oper) (t:Nat),ops[i]?=some o->look (s (i+1)).env t=if o.dst=some t then val i else look (rH (ks i) (s i).env) t
 dst:∀(i:Nat) (o:Oper) (t:Nat),ops[i]?=some o->o.dst=some t->t<N
theorem Zkm{P:Program}{T:ff}(hT:jt P T){G:List ba}(hG:jO P G){N M:Nat}{ops:Array Oper}{K:St->Prop}:∀(l:List Oper) (k:Nat) (st:St),ops.toList.drop k=l->lF T G N M ops l st K->
 ∃ (s:Nat->St) (ks:Nat->List Nat) (val:Nat->D),s k=st/\K (s (k+l.length))/\(∀(i:Nat) (o:Oper),k<=i->ops[i]?=some o->nb P G M ops o (s i).env (s i).rows (ks i) (val i) (s (i+1)).rows)/\
  (∀(i:Nat) (o:Oper) (t:Nat),k<=i->ops[i]?=some o->look (s (i+1)).env t=if o.dst=some t then val i else look (rH (ks i) (s i).env) t)/\(∀(i:Nat) (o:Oper) (t:Nat),k<=i->ops[i]?=some o->o.dst=some t->t<N)
 |[],k,st,hk,h=>by
  have hlen:ops.size<=k:=by
   have:=congrArg List.length hk
   simp at this;omega
  have no:∀(i:Nat) (o:Oper),k<=i->ops[i]?=some o->False:=λi o hi ho=>by
   have:=(Array.getElem?_eq_some_iff.1 ho).1;omega
  exact⟨λ_=>st,λ_=>[],λ_=>.dead,rfl,h,λi o hi ho=>(no i o hi ho).elim,λi o t hi ho=>(no i o hi ho).elim,λi o t hi ho=>(no i o hi ho).elim⟩
 |o ::l,k,st,hk,h=>by
  have cj:k<ops.toList.length:=by
   by_cases cj:k<ops.toList.length
   ·exact cj
   ·rw[aA (by omega)]at hk;cases hk
  rw[aB cj]at hk
  have ho:ops[k]?=some o:=by
   have:=(List.cons.inj hk).1
   rw[<-this]
   simp at cj
   simp[cj]
  obtain⟨kk,v,R',iv,h1,h2,h3,h4⟩:=U8 hT hG h
  obtain⟨s,ks,val,g1,g2,g3,g4,g5⟩:=Zkm hT hG l (k+1) _ (List.cons.inj hk).2 h4
  refine⟨λi=>if i=k then st else s i,λi=>if i=k then kk else ks i,λi=>if i=k then v else val i,by simp,?_,λi p hi hp=>?_,λi p t hi hp=>?_,λi p t hi hp hd=>?_⟩
  ·simp only[List.length_cons]
   rw[if_neg (by omega),show k+(l.length+1)=k+1+l.length by omega]
   exact g2
  ·by_cases e:i=k
   ·subst e
    rw[ho]at hp;cases hp
    simp only[if_true,show¬i+1=i by omega,if_false,g1]
    exact h3
   ·simp only[if_neg e,if_neg (show¬i+1=k by omega)]
    exact g3 i p (by omega) hp
  ·by_cases e:i=k
   ·subst e
    rw[ho]at hp;cases hp
    simp only[if_true,show¬i+1=i by omega,if_false,g1]
    cases tu:o.dst with
    |none=>simp[rI,h1]
    |some u=>simp only[rI,AJ,Option.some.injEq,h1]
   ·simp only[if_neg e,if_neg (show¬i+1=k by omega)]
    exact g4 i p t (by omega) hp
  ·by_cases e:i=k
   ·subst e
    rw[ho]at hp;cases hp
    exact h2 t hd
   ·exact g5 i p t (by omega) hp hd
theorem Z1g(ops:Array Oper): ∀(l:List Oper) (acc:Array Nat),(∀k,acc.size<=k-> ∀i,(acc.getD k 0).testBit i=false)->
    ∀(listed:Nat->Prop),(∀(j:Nat) (hj:j<acc.size) (i:Nat),(∀o,ops[j]? =some o-> ∀e∈o.after,Region.binds .any e=true->listed e.on)->(acc.getD j 0).testBit i=true->listed i)->
    (∀j,listed j-> ∀o,ops[j]? =some o-> ∀e∈o.after,Region.binds .any e=true->listed e.on)->ops.toList.drop acc.size=l->
    ∀ (j i:Nat),(∀o,ops[j]? =some o-> ∀e∈o.after,Region.binds .any e=true->listed e.on)->
      ((l.foldl (λ(acc:Array Nat) o=>acc.push (o.after.foldl (λs e=>if Region.binds .any e then s|||2^e.on|||acc.getD e.on 0 else s) 0)) acc).getD j 0).testBit i=true->listed i
  | [],acc,hz,listed,DW,gp,hl,j,i,hj,h=>by
    simp only[List.foldl_nil]at h
    by_cases cj:j<acc.size
    . exact DW j cj i hj h
    . rw[hz j (by omega) i]at h;cases h
  | o :: l, acc,hz,listed,DW,gp,hl,j,i,hj,h=>by
    simp only[aD]at h
    have cj:acc.size<ops.toList.length:=by
      by_cases cj:acc.size<ops.toList.length
      . exact cj
      . rw[aA (by omega)]at hl;cases hl
    rw[aB cj]at hl
    have ho:ops[acc.size]? =some o:=by
      rw[<-(List.cons.inj hl).1]
      simp at cj
      simp [cj]
    refine Z1g ops l _ (λk hk i=> ?_) listed (λk hk i DX hb=> ?_) gp (by simpa using(List.cons.inj hl).2) j i hj h
    . simp at hk
      rw[aF,Array.getElem?_eq_none (by simp;omega)]
      simp
    . simp only [Array.size_push]at hk
      by_cases e:k=acc.size
      . subst e
        rw[aF,Array.getElem?_push_size,aG]at hb
        have iL:=DX o ho
        rw[<-aH]at hb
        have fold: ∀(es:List Edge) (s0:Nat),(∀e∈es,Region.binds .any e=true->listed e.on)->(s0.testBit i=true->listed i)->(es.foldl (λs e=>if Region.binds .any e then s|||2^e.on|||acc.getD e.on 0 else s) s0).testBit i=true->listed i:=by
          intro es
          induction es with
          |nil=>intro s0 _ h0 hb;exact h0 hb
          | cons e es ih=>
            intro s0 he h0 hb
            simp only[aD]at hb
            refine ih _ (λe' wO=>he e' (by simp [wO])) (λhs=> ?_) hb
            split at hs
            . rename_i Mm
              have hle:=he e (by simp) Mm
              simp only[Nat.testBit_or,aI,Nat.testBit_two_pow,decide_eq_true_eq]at hs
              rcases hs with(hs|hs)|hs
              . exact h0 hs
              . rw[<-hs];exact hle
              . by_cases cj:e.on<acc.size
                . exact DW e.on cj i (gp e.on hle) hs
                . rw[hz e.on (by omega) i]at hs;cases hs
            . exact h0 hs
        exact fold o.after.toList 0 (λe he hb=>iL e (by simpa using he) hb) (by simp) hb
      . have mq:k<acc.size:=by omega
        rw[aF,Array.getElem?_push_lt mq,<-aJ mq,<-aF]at hb
        exact DW k mq i DX hb
theorem Rv{ops:Array Oper}{listed:Nat->Prop}(gp:∀j,listed j->∀o,ops[j]?=some o->∀e∈o.after,Region.binds .any e=true->listed e.on){j i:Nat}
 (hj:∀o,ops[j]?=some o->∀e∈o.after,Region.binds .any e=true->listed e.on) (h:((Region.before ops).getD j 0).testBit i=true):listed i:=by
 refine Z1g ops ops.toList #[] (λk _ i=>by simp) listed (λj hj=>by simp at hj) gp (by simp) j i hj ?_
 have:Region.before ops=ops.toList.foldl (λ(acc:Array Nat) o=>acc.push (o.after.foldl (λs e=>if Region.binds .any e then s|||2^e.on|||acc.getD e.on 0 else s) 0)) #[]:=by
  unfold Region.before
  rw[<-aH]
 rw[<-this];exact h
theorem Mn{G:List ba}{ops:Array Oper}(h:Hz G ops=true){i j:Nat}{x y:Oper}(U9:i<j)(hx:ops[i]?=some x)(hy:ops[j]?=some y):
 (x.apart ops y=true\/((Region.before ops).getD j 0).testBit i=true)/\((kW G x.op=true/\kW G y.op=true)\/((Region.before ops).getD j 0).testBit i=true):=by
 have hj:=(Array.getElem?_eq_some_iff.1 hy).1
 have h1:=List.all_eq_true.1 h j (List.mem_range.2 hj)
 simp only[aE]at h1
 have h2:=List.all_eq_true.1 h1.2 i (List.mem_range.2 U9)
 unfold Bf at h2
 simp only[hx,hy,aE,aI]at h2
 exact h2
theorem Zgp{G:List ba}{ops:Array Oper}(h:Hz G ops=true){j:Nat}{y:Oper}(hy:ops[j]?=some y):∀e∈y.after,Region.binds .any e=true->e.on<j:=by
 have hj:=(Array.getElem?_eq_some_iff.1 hy).1
 have h1:=List.all_eq_true.1 h j (List.mem_range.2 hj)
 simp only[aE,hy]at h1
 intro e he hb
 have:=Array.all_eq_true'.1 h1.1 e he
 simp only[hb,Bool.not_true,Bool.false_or]at this
 exact lE this
theorem Va{G:List ba}{o:Op}(h:kW G o=true):rJ G o=false:=by
 simpa[kW]using h
theorem Vb{P:Program}{G:List ba}{M:Nat}{ops:Array Oper}{o:Oper}{env:List (Nat×D)}{R:Rows}{ks:List Nat}{v:D}{R':Rows}(h:nb P G M ops o env R ks v R')(hq:kW G o.op=true):ks=[]/\∃news,R'=R++news:=by
 have one:pf P G M o (bo env) R ks v R'->ks=[]/\∃news,R'=R++news:=λh=>by
  unfold pf at h
  rw[Va hq]at h
  exact⟨h.1,h.2.1⟩
 unfold nb at h
 split at h
 ·exact one h
 ·obtain⟨g,_,⟨b,_,h⟩|⟨_,h⟩⟩:=h
  ·split at h
   ·exact one h
   ·exact⟨h.1,[],by rw[h.2.2];simp⟩
  ·exact⟨h.1,[],by rw[h.2.2];simp⟩
def iY(ops:Array Oper)(s:Nat->St)(val:Nat->D)(df:Nat->Bool)(c:Nat):Nat->Nat->D
 |0,t=>look (s c).env t
 |n+1,t=>if df (c+n)=true/\(ops[c+n]?).bind (·.dst)=some t then val (c+n)else iY ops s val df c n t
def ki(s:Nat->St)(df:Nat->Bool)(c:Nat):Nat->Nat->Option Row
 |0,r=>(s c).rows.getD r none
 |n+1,r=>if df (c+n)=true/\(s (c+n)).rows.length<=r/\r<(s (c+n+1)).rows.length then(s (c+n+1)).rows.getD r none else ki s df c n r
theorem Chain.DY{P:Program}{G:List ba}{N M:Nat}{ops:Array Oper}{s:Nat->St}{ks:Nat->List Nat}{val:Nat->D}(hc:Chain P G N M ops s ks val){i:Nat}{o:Oper}(ho:ops[i]?=some o)(hq:kW G o.op=true)(t:Nat):look (s (i+1)).env t=if o.dst=some t then val i else look (s i).env t:=by
 rw[hc.env i o t ho,(Vb (hc.op i o ho) hq).1,oH]
theorem JN.toW{c c':Ctx}{w w':World}{R R':Rows}(hs:JN c w R R' c' w'):lu c w c' w':=
 ⟨hs.mem,hs.bz,hs.fr.mono (λb _ hf=>hf.elim),hs.fh,λr ao nc hv=>by
  by_cases h1:R.length<=r/\r<R'.length
  ·exact .inr (hs.new r h1.1 h1.2 hv)
  ·rw[hs.rows,if_neg h1]at nc
   obtain⟨h2,h3⟩:=hs.ju r (by omega)
   exact .inl ⟨⟨_,nc⟩,λe=>hv (h3.2 e),h2⟩⟩
theorem Qlu{R news:Rows}{r:Nat}(h:r<R.length):(R++news).getD r none=R.getD r none:=by
 simp[aK,List.getElem?_append_left h]
section
variable {P:Program} {G:List ba} {N M:Nat} {ops:Array Oper} {s:Nat->St} {ks:Nat->List Nat} {val:Nat->D} (hc:Chain P G N M ops s ks val) (me:Hz G ops=true)
include hc
theorem Z1m{c d:Nat}(hq:∀(i:Nat) (o:Oper),c<=i->i<d->ops[i]?=some o->kW G o.op=true)(hd:d<=ops.size){k:Nat}(hk:c<=k):∀{l:Nat},k<=l->l<=d->∃news,(s l).rows=(s k).rows++news:=by
 intro l hl
 induction l with
 |zero=>intro _;exact⟨[],by rw[show k=0 by omega];simp⟩
 |succ l ih=>
  intro De
  by_cases e:k=l+1
  ·exact⟨[],by rw[e];simp⟩
  ·obtain⟨n1,h1⟩:=ih (by omega) (by omega)
   have ho:ops[l]?=some ops[l]:=aJ (by omega)
   obtain⟨_,n2,h2⟩:=Vb (hc.op l _ ho) (hq l _ (by omega) (by omega) ho)
   exact⟨n1++n2,by rw[h2,h1,List.append_assoc]⟩
theorem JO{c d:Nat}(hq:∀(i:Nat) (o:Oper),c<=i->i<d->ops[i]?=some o->kW G o.op=true)(hd:d<=ops.size){k l:Nat}(hk:c<=k)(hl:k<=l)(De:l<=d):(s k).rows.length<=(s l).rows.length:=by
 obtain⟨n,h⟩:=Z1m hc hq hd hk hl De
 rw[h];simp
theorem JP{c d:Nat}(hq:∀(i:Nat) (o:Oper),c<=i->i<d->ops[i]?=some o->kW G o.op=true)(hd:d<=ops.size){k l:Nat}(hk:c<=k)(hl:k<=l)(De:l<=d){r:Nat}(hr:r<(s k).rows.length):(s l).rows.getD r none=(s k).rows.getD r none:=by
 obtain⟨n,h⟩:=Z1m hc hq hd hk hl De
 rw[h,Qlu hr]
theorem Rw{df:Nat->Bool}{c d:Nat}(hq:∀(i:Nat) (o:Oper),c<=i->i<d->ops[i]?=some o->kW G o.op=true)(hd:d<=ops.size):∀{n:Nat},c+n<=d->(∀i,i<n->df (c+i)=true)->∀t,iY ops s val df c n t=look (s (c+n)).env t
 |0,_,_,t=>rfl
 |n+1,hn,hl,t=>by
  have ho:ops[c+n]?=some ops[c+n]:=aJ (by omega)
  simp only[iY,hl n (by omega),true_and,ho,aL]
  rw[show c+(n+1)=(c+n)+1 by omega,hc.DY ho (hq _ _ (by omega) (by omega) ho) t]
  split
  ·rfl
  ·exact Rw hq hd (by omega) (λi hi=>hl i (by omega)) t
theorem Rx{df:Nat->Bool}{c d:Nat}(hq:∀(i:Nat) (o:Oper),c<=i->i<d->ops[i]?=some o->kW G o.op=true)(hd:d<=ops.size):∀{n:Nat},c+n<=d->(∀i,i<n->df (c+i)=true)->∀r,ki s df c n r=(s (c+n)).rows.getD r none
 |0,_,_,r=>rfl
 |n + 1,hn,hl,r=>by
  simp only[ki,hl n (by omega),true_and]
  rw[show c+(n+1)=c+n+1 by omega]
  split
  ·rfl
  ·rename_i h1
   rw[Rx hq hd (by omega) (λi hi=>hl i (by omega)) r]
   by_cases h2:r<(s (c+n)).rows.length
   ·exact(JP hc hq hd (by omega) (by omega) (by omega) h2).symm
   ·have hlen:=JO hc hq hd (show c<=c+n by omega) (show c+n<=c+n+1 by omega) (by omega)
    simp only[aK]
    rw[aM (by omega),aM (by omega)]
end
theorem Ry{ops:Array Oper}{s:Nat->St}{val:Nat->D}{df:Nat->Bool}{c:Nat}:∀{n:Nat},(∀i,i<n->df (c+i)=false)->∀t,iY ops s val df c n t=look (s c).env t
 |0,_,t=>rfl
 |n+1,hl,t=>by
  simp only[iY,hl n (by omega),aN,false_and,if_false]
  exact Ry (λi hi=>hl i (by omega)) t
theorem Qp{s:Nat->St}{df:Nat->Bool}{c:Nat}:∀{n:Nat},(∀i,i<n->df (c+i)=false)->∀r,ki s df c n r=(s c).rows.getD r none
 |0,_,r=>rfl
 |n+1,hl,r=>by
  simp only[ki,hl n (by omega),aN,false_and,if_false]
  exact Qp (λi hi=>hl i (by omega)) r
theorem Rz{ops:Array Oper}{s:Nat->St}{val:Nat->D}{df fx:Nat->Bool}{c:Nat}:∀{n:Nat},(∀i,i<n->fx (c+i)=df (c+i))->∀t,iY ops s val fx c n t=iY ops s val df c n t
 |0,_,t=>rfl
 |n+1,hl,t=>by simp only[iY,hl n (by omega),Rz (n:=n) (λi hi=>hl i (by omega)) t]
theorem RA{s:Nat->St}{df fx:Nat->Bool}{c:Nat}:∀{n:Nat},(∀i,i<n->fx (c+i)=df (c+i))->∀r,ki s fx c n r=ki s df c n r
 |0,_,r=>rfl
 |n+1,hl,r=>by simp only[ki,hl n (by omega),RA (n:=n) (λi hi=>hl i (by omega)) r]
theorem Vc{ops:Array Oper}{s:Nat->St}{val:Nat->D}{df fx:Nat->Bool}{c i:Nat}{o:Oper}(ho:ops[i]? =some o)(ph:c<=i)(h0:df i=false)(h1:fx i=true)(h2: ∀k,k≠i->fx k=df k){t:Nat}
    (rK: ∀k o',i<k->df k=true->ops[k]? =some o'->o'.dst=some t->o.dst=some t->False): ∀{n:Nat},i<c+n->iY ops s val fx c n t=if o.dst=some t then val i else iY ops s val df c n t
  |0,h=>by omega
  | n + 1,h=>by
    by_cases e:i=c+n
    . simp only[iY,<-e,h0,h1,ho,aL,true_and,aN,false_and,if_false]
      split
      . rfl
      . exact Rz (λk hk=>h2 _ (by omega)) t
    . simp only[iY,h2 (c+n) (λe'=>e e'.symm)]
      rw[Vc ho ph h0 h1 h2 rK (n:=n) (by omega)]
      by_cases g:df (c+n)=true/\(ops[c+n]?).bind (·.dst)=some t
      . by_cases hd:o.dst=some t
        . exfalso
          obtain⟨g1,g2⟩:=g
          cases hk:ops[c+n]? with
          |none=>rw[hk]at g2;cases g2
          | some o'=>
            rw[hk]at g2
            exact rK (c+n) o' (by omega) g1 hk g2 hd
        . rw[if_pos g,if_neg hd,if_pos g]
      . rw[if_neg g,if_neg g]
theorem Vd{s:Nat->St}{df fx:Nat->Bool}{c i:Nat}(ph:c<=i)(h0:df i=false)(h1:fx i=true)(h2:∀k,k≠i->fx k=df k){r d:Nat}
 (hlen:∀k,i<k->k<d->(s (i+1)).rows.length<=(s k).rows.length):∀{n:Nat},i<c+n->c+n<=d->ki s fx c n r=if(s i).rows.length<=r/\r<(s (i+1)).rows.length then(s (i+1)).rows.getD r none else ki s df c n r
 |0,h,_=>by omega
 |n +1,h,hn=>by
  by_cases e:i=c+n
  ·simp only[ki,<-e,h0,h1,true_and,aN,false_and,if_false]
   split
   ·rfl
   ·exact RA (λk hk=>h2 _ (by omega)) r
  ·simp only[ki,h2 (c+n) (λe'=>e e'.symm)]
   rw[Vd ph h0 h1 h2 hlen (n:=n) (by omega) (by omega)]
   have:=hlen (c+n) (by omega) (by omega)
   by_cases g:df (c+n)=true/\(s (c+n)).rows.length<=r/\r<(s (c+n+1)).rows.length
   ·rw[if_pos g,if_neg (by omega),if_pos g]
   ·rw[if_neg g,if_neg g]
theorem Fz{ops:Array Oper}{x y:Oper}(h:x.apart ops y=true){t:Nat}:(x.dst=some t->y.dst≠some t)/\(x.dst=some t->t∉y.looksAt ops)/\(y.dst=some t->t∉x.looksAt ops):=by
 obtain⟨h1,h2,h3⟩:=Oper.apart_spec h
 exact⟨λe=>h2 t e,λe=>h1 t e,λe=>h3 t e⟩
structure Inv(P:Program)(G:List ba)(N M:Nat)(ops:Array Oper)(s:Nat->St)(val:Nat->D)(c0:Ctx)(w0:World)(df:Nat->Bool)(a:Act)(w:World)(c d:Nat):Prop where
 cd:c<=d
 dn:d<=ops.size
 pre:∀i,i<c->df i=true
 post:∀i,d<=i->df i=false
 quiet:∀(i:Nat) (o:Oper),c<=i->i<d->ops[i]?=some o->kW G o.op=true
 wr:∀(o:Oper),ops[d]?=some o->kW G o.op=false
 closed:∀j,df j=true->∀(o:Oper),ops[j]?=some o->∀e∈o.after,Region.binds .any e=true->df e.on=true
 size:N<=a.tmps.size
 defers:lG w0.heap.size w a.defers
 fw:c0.base<=w0.heap.size
 gk:∀r row,c0.R r=some row->r<M
 ctx:∃cx,Mem cx w/\(∀r,cx.R r=ki s df c (d-c) r)/\(∀t,Rep cx w (iY ops s val df c (d-c) t) (a.tmps.getD t undef))/\wP c0 w0 cx w
theorem Mo(G:List ba)(ops:Array Oper):∀(n c:Nat),ops.size-c=n->c<=ops.size->∃d,c<=d/\d<=ops.size/\(∀(i:Nat) (o:Oper),c<=i->i<d->ops[i]?=some o->kW G o.op=true)/\(∀(o:Oper),ops[d]?=some o->kW G o.op=false)
 |0,c,h,hc=>⟨c,aO _,hc,λi o h1 h2=>by omega,λo ho=>by
  have:=(Array.getElem?_eq_some_iff.1 ho).1;omega⟩
 |n +1,c,h,hc=>by
  have ho:ops[c]?=some ops[c]:=aJ (by omega)
  cases hq:kW G ops[c].op with
  |false=>exact⟨c,aO _,hc,λi o h1 h2=>by omega,λo h'=>by rw[ho]at h';cases h';exact hq⟩
  |true=>
   obtain⟨d,h1,h2,h3,h4⟩:=Mo G ops n (c+1) (by omega) (by omega)
   refine⟨d,by omega,h2,λi o hi hid h'=>?_,h4⟩
   by_cases e:i=c
   ·subst e;rw[ho]at h';cases h';exact hq
   ·exact h3 i o (by omega) hid h'
section
variable {P:Program} {G:List ba} {N M:Nat} {ops:Array Oper} {s:Nat->St} {ks:Nat->List Nat} {val:Nat->D} (hc:Chain P G N M ops s ks val) (me:Hz G ops=true)
include hc me
theorem xD{c0:Ctx}{w0:World}{df fx:Nat->Bool}{a:Act}{w:World}{c d i:Nat}{o:Oper}(hI:Inv P G N M ops s val c0 w0 df a w c d)(ho:ops[i]?=some o)(h0:df i=false)(h1:fx i=true)(h2:∀k,k≠i->fx k=df k)
 (Mp:∀e∈o.after,Region.binds .any e=true->df e.on=true) {K:Act->World->Prop} {Q:Exit->Act->World->Prop} (hK:∀a' w' c' d',Inv P G N M ops s val c0 w0 fx a' w' c' d'->K a' w'):wpOp P ops Q i K a w:=by
 have cj:=(Array.getElem?_eq_some_iff.1 ho).1
 have pE:∀k,((Region.before ops).getD i 0).testBit k=true->df k=true:=λk hk=>
  Rv (listed:=λk=>df k=true) hI.closed (λo' iZ=>by rw[ho]at iZ;cases iZ;exact Mp) hk
 have nI:∀j k,df j=true->((Region.before ops).getD j 0).testBit k=true->df k=true:=λj k hj hk=>
  Rv (listed:=λk=>df k=true) hI.closed (hI.closed j hj) hk
 have ph:c<=i:=by
  by_cases h:c<=i
  ·exact h
  ·rw[hI.pre i (by omega)]at h0;cases h0
 have tv:∀j,fx j=true->∀(o:Oper),ops[j]?=some o->∀e∈o.after,Region.binds .any e=true->fx e.on=true:=by
  intro j hj o' iZ e he hb
  have gg:df e.on=true:=by
   by_cases e':j=i
   ·subst e';rw[ho]at iZ;cases iZ;exact Mp e he hb
   ·rw[h2 j e']at hj;exact hI.closed j hj o' iZ e he hb
  rw[h2 e.on (λe'=>by rw[e',h0]at gg;cases gg)]
  exact gg
 have hid:i<=d:=by
  by_cases h:i<=d
  ·exact h
  ·exfalso
   have Bg:ops[d]?=some ops[d]:=aJ (by omega)
   have:=(Mn me (show d<i by omega) Bg ho).2
   rcases this with⟨hq,_⟩|hb
   ·rw[hI.wr _ Bg]at hq;cases hq
   ·have:=pE d hb
    rw[hI.post d (aO _)]at this;cases this
 obtain⟨cx,hm,hR,hE,nJ⟩:=hI.ctx
 by_cases e:i=d
 ·
  subst e
  have iL:∀k,k<i-c->df (c+k)=true:=λk hk=>by
   have dr:ops[c+k]?=some ops[c+k]:=aJ (by omega)
   have:=(Mn me (show c+k<i by omega) dr ho).2
   rcases this with⟨_,hq⟩|hb
   ·rw[hI.wr _ ho]at hq;cases hq
   ·exact pE _ hb
  have hs:fk N M c0 w0 cx w (s i) a:=by
   refine⟨hm,λr=>?_,λt=>?_,hI.size,hI.defers,hI.fw,hI.gk,nJ⟩
   ·rw[hR,Rx hc hI.quiet hI.dn (by omega) iL]
    rw[show c+(i-c)=i by omega]
   ·have:=hE t
    rw[Rw hc hI.quiet hI.dn (by omega) iL]at this
    rwa [show c+(i-c)=i by omega]at this
  refine qW ho hs (λ_=>rfl) (λt=>hc.dst i o t ho) (hc.op i o ho) λa' w' c' jd=>?_
  obtain⟨d',g1,g2,g3,g4⟩:=Mo G ops _ (i+1) rfl (by omega)
  have rK:∀k,k<d'-(i+1)->fx (i+1+k)=false:=λk hk=>by
   rw[h2 _ (by omega)];exact hI.post _ (by omega)
  refine hK a' w' (i+1) d' ⟨g1,g2,λk hk=>?_,λk hk=>?_,g3,g4,tv,jd.size,jd.defers,jd.fw,jd.gk,c',jd.mem,λr=>?_,λt=>?_,jd.reach⟩
  ·by_cases e':k=i
   ·rw[e'];exact h1
   ·rw[h2 k e']
    by_cases Ve:k<c
    ·exact hI.pre k Ve
    ·have:=iL (k-c) (by omega)
     rwa [show c+(k-c)=k by omega]at this
  ·rw[h2 k (by omega)];exact hI.post k (by omega)
  ·rw[Qp rK];exact jd.rows r
  ·rw[Ry rK,hc.env i o t ho]
   have:=jd.env t
   cases hd:o.dst with
   |none=>simpa[rI,hd]using this
   |some u=>simpa only[rI,hd,AJ,Option.some.injEq]using this
 ·
  have HA:i<d:=by omega
  have hq:=hI.quiet i o ph HA ho
  have Mq:=Va hq
  have HB :∀t∈o.looksAt ops,∀n,c+n<=d->iY ops s val df c n t=if c+n<=i then look (s (c+n)).env t else look (s i).env t:=by
   intro t ht n
   induction n with
   |zero=>intro _;simp only[iY,Nat.add_zero];rw[if_pos ph]
   |succ n ih=>
    intro hn
    have HC:=hI.dn
    obtain⟨ok,dr⟩:∃ok,ops[c+n]?=some ok:=⟨_,aJ (show c+n<ops.size by omega)⟩
    have ih:=ih (by omega)
    simp only[iY,dr,aL]
    by_cases hk:c+n<i
    ·have hA:c+(n+1)<=i:=by omega
     have RB:c+n<=i:=by omega
     rw[if_pos hA,show c+(n+1)=c+n+1 by omega,hc.DY dr (hI.quiet _ _ (by omega) (by omega) dr) t]
     rw[if_pos RB]at ih
     by_cases hd:ok.dst=some t
     ·have hl:df (c+n)=true:=by
       rcases(Mn me hk dr ho).1 with tw|hb
       ·exact((Fz tw).2.1 hd ht).elim
       ·exact pE _ hb
      rw[if_pos ⟨hl,hd⟩,if_pos hd]
     ·rw[if_neg (λg=>hd g.2),if_neg hd,ih]
    ·have HD:¬(df (c+n)=true/\ok.dst=some t):=by
      rintro⟨g1,g2⟩
      by_cases e':c+n=i
      ·rw[e',h0]at g1;cases g1
      ·have nK:i<c+n:=by omega
       rcases(Mn me nK ho dr).1 with tw|hb
       ·exact(Fz tw).2.2 g2 ht
       ·have:=nI _ _ g1 hb
        rw[h0]at this;cases this
     have hA:¬c+(n+1)<=i:=by omega
     rw[if_neg HD,ih,if_neg hA]
     split
     ·rw[show c+n=i by omega]
     ·rfl
  have Mr:∀t∈o.looksAt ops,Rep cx w (look (s i).env t) (a.tmps.getD t undef):=λt ht=>by
   have:=hE t
   rw[HB t ht (d-c) (by omega),if_neg (by omega)]at this
   exact this
  have hlen:∀k l,c<=k->k<=l->l<=d->(s k).rows.length<=(s l).rows.length:=λk l h1 h2 h3=>JO hc hI.quiet hI.dn h1 h2 h3
  have iP:∀k l,c<=k->k<=l->l<=d->∀r,r<(s k).rows.length->(s l).rows.getD r none=(s k).rows.getD r none:=λk l h1 h2 h3 r hr=>JP hc hI.quiet hI.dn h1 h2 h3 hr
  have Bh:∀n,c+n<=d->∀r,r<(s i).rows.length->∀row,ki s df c n r=some row->(s i).rows.getD r none=some row:=by
   intro n
   induction n with
   |zero=>
    intro _ r hr row h
    simp only[ki]at h
    by_cases Vf:r<(s c).rows.length
    ·rw[iP c i (aO _) ph (by omega) r Vf];exact h
    ·simp only[aK,aM (show(s c).rows.length<=r by omega)]at h;cases h
   |succ n ih=>
    intro hn r hr row h
    simp only[ki]at h
    split at h
    ·rename_i g
     obtain⟨g1,g2,g3⟩:=g
     have Vg:c+n<i:=by
      by_cases mq:c+n<i
      ·exact mq
      ·by_cases e':c+n=i
       ·rw[e',h0]at g1;cases g1
       ·have:=hlen i (c+n) ph (by omega) (by omega);omega
     rw[iP (c+n+1) i (by omega) (by omega) (by omega) r g3];exact h
    ·exact ih (by omega) r hr row h
  have Bi:∀n,c+n<=d->∀r,(s i).rows.length<=r->r<(s (i+1)).rows.length->ki s df c n r=none:=by
   intro n
   induction n with
   |zero=>
    intro _ r h1 h2
    have:=hlen c i (aO _) ph (by omega)
    simp only[ki,aK,aM (show(s c).rows.length<=r by omega),Option.getD_none]
   |succ n ih=>
    intro hn r h1 h2
    simp only[ki]
    rw[if_neg]
    ·exact ih (by omega) r h1 h2
    ·rintro⟨g1,g2,g3⟩
     by_cases e':c+n=i
     ·rw[e',h0]at g1;cases g1
     ·by_cases mq:c+n<i
      ·have:=hlen (c+n+1) i (by omega) (by omega) (by omega);omega
      ·have:=hlen (i+1) (c+n) (by omega) (by omega) (by omega);omega
  have je:cx.base<=w.heap.size:=by rw[nJ.bz.base];exact Nat.le_trans hI.fw nJ.fr.size
  have oI:mf cx (s i).rows:=λr row ao g1 g2=>by
   have hr:r<(s i).rows.length:=by
    by_cases h:r<(s i).rows.length
    ·exact h
    ·simp only[aK,aM (show(s i).rows.length<=r by omega)]at g2;cases g2
   rw[hR]at g1
   have:=Bh (d-c) (by omega) r hr row g1
   rw[this]at g2;exact Option.some.inj g2
  have fin:∀v w' c',JN cx w (s i).rows (s (i+1)).rows c' w'->Rep c' w' (val i) v->K (a.put o.dst v) w':=by
   intro v w' c' hn hv
   refine hK _ w' c d ⟨hI.cd,hI.dn,λk hk=>by rw[h2 k (by omega)];exact hI.pre k hk,λk hk=>by rw[h2 k (by omega)];exact hI.post k hk,hI.quiet,hI.wr,tv,?_,?_,hI.fw,hI.gk,c',hn.mem,λr=>?_,λt=>?_,nJ.step (ks:=[]) (λk hk=>by simp[bq]at hk) hI.gk hn.toW.toK⟩
   ·cases hd:o.dst<;>simp[Act.put]<;>exact hI.size
   ·first|exact lG.put (hI.defers.step hm hn.fr)|exact lG.put (hI.defers.step hm hn.toW.fr)
   ·rw[hn.rows,hR,Vd ph h0 h1 h2 (d:=d) (λk nL rb=>hlen (i+1) k (by omega) (by omega) (by omega)) (by omega) (by omega)]
   ·have hl:∀k o',i<k->df k=true->ops[k]?=some o'->o'.dst=some t->o.dst=some t->False:=by
     intro k o' nK hk dr Vh Vi
     rcases(Mn me nK ho dr).1 with tw|hb
     ·exact(Fz tw).1 Vi Vh
     ·have:=nI _ _ hk hb
      rw[h0]at this;cases this
    rw[Vc ho ph h0 h1 h2 hl (by omega)]
    have hold:=wQ hn.bz (hE t)
    cases hd:o.dst with
    |none=>simpa[Act.put,hd]using hold
    |some u=>
     have hu:=hc.dst i o u ho hd
     simp only[Act.put,Option.some.injEq]
     by_cases e':u=t
     ·subst e'
      have mq:u<a.tmps.size:=Nat.lt_of_lt_of_le hu hI.size
      rw[if_pos rfl]
      simpa[aP,mq]using hv
     ·rw[if_neg e']
      simpa[aQ e']using hold
  have skip:val i=.dt []->(s (i+1)).rows=(s i).rows->K (a.put o.dst undef) w:=λe1 e2=>
   fin undef w cx ⟨hm,jf.refl _ _,Fr.refl _ _,λb hb=>.inl hb,λr=>by rw[e2,if_neg (by omega)],λ_ _=>⟨rfl,Iff.rfl⟩,λr g1 g2=>by rw[e2]at g2;omega⟩ (by rw[e1];exact RC _ _)
  have run:pf P G M o (bo (s i).env) (s i).rows (ks i) (val i) (s (i+1)).rows->o.mN P a w K Q:=λhX=>by
   unfold pf at hX
   rw[Mq]at hX
   refine hX.2.2 cx w a hm je oI (λr g1 g2=>by rw[hR];exact Bi (d-c) (by omega) r g1 g2) (λx hx=>?_) K Q fin
   cases x with
   |tmp t=>
    refine Mr t ?_
    unfold Oper.looksAt
    exact List.mem_append_left _ (List.mem_filterMap.2 ⟨.tmp t,by simpa using hx,rfl⟩)
   |const v=>
    simp only[bo,Act.eval]
    cases hv:FA v with
    |none=>trivial
    |some d=>exact Ms hv cx w
   |global g=>trivial
   |func f=>exact JQ f
  have hG:=hc.op i o ho
  unfold wpOp
  simp only[ho]
  unfold nb at hG
  cases hg:o.guard with
  |none=>
   simp only[hg]at hG
   have hw:Region.wanted o (yielded ops a.tmps)=true:=by simp[Region.wanted,hg]
   rw[if_pos hw]
   exact run hG
  |some jw=>
   obtain⟨j,want⟩:=jw
   simp only[hg]at hG
   obtain⟨g,g2,hG⟩:=hG
   have hr:=Mr g (by
    unfold Oper.looksAt
    refine List.mem_append_right _ ?_
    simp only[hg,g2];simp)
   rcases hG with⟨b,g3,g4⟩|⟨g3,_,e1,e2⟩
   rotate_left
   ·rw[g3]at hr
    rw[if_neg (by rw[RD (o:=o) hg g2 hr];simp)]
    exact skip e1 e2
   rw[g3]at hr
   have hw:=RE (o:=o) hg g2 hr
   by_cases e':b=want
   ·rw[if_pos e']at g4
    rw[if_pos (by rw[hw];simpa using e')]
    exact run g4
   ·rw[if_neg e']at g4
    rw[if_neg (by rw[hw];simpa using e')]
    exact skip g4.2.1 g4.2.2
end
def mr(df:Nat->Bool):Nat->Nat
 |0=>0
 |n+1=>(if df n=true then 0 else 1)+mr df n
theorem Vj(df:Nat->Bool):∀n,mr df n<=n
 |0=>aO _
 |n+1=>by have:=Vj df n;simp only[mr];split<;>omega
theorem Vk{df:Nat->Bool}:∀{n:Nat},mr df n=0->∀i,i<n->df i=true
 |n +1,h,i,hi=>by
  simp only[mr]at h
  by_cases e:i=n
  ·subst e
   cases hl:df i with
   |true=>rfl
   |false=>rw[hl]at h;simp at h
  ·exact Vk (n:=n) (by omega) i (by omega)
theorem Zl3{df fx:Nat->Bool}:∀{n:Nat},(∀i,i<n->fx i=df i)->mr fx n=mr df n
 |0,_=>rfl
 |n+1,h=>by simp only[mr,h n (by omega),Zl3 (n:=n) (λi hi=>h i (by omega))]
theorem Vl{df fx:Nat->Bool}{i:Nat}(h0:df i=false)(h1:fx i=true)(h2:∀k,k≠i->fx k=df k):∀{n:Nat},i<n->mr fx n+1=mr df n
 |n +1,h=>by
  simp only[mr]
  by_cases e:i=n
  ·subst e
   rw[Zl3 (df:=df) (fx:=fx) (λk hk=>h2 k (by omega)),h0,h1]
   simp;omega
  ·rw[h2 n (λe'=>e e'.symm)]
   have:=Vl h0 h1 h2 (n:=n) (by omega)
   omega
set_option linter.unusedSectionVars false
section
variable {P:Program} {G:List ba} {N M:Nat} {ops:Array Oper} {s:Nat->St} {ks:Nat->List Nat} {val:Nat->D} (hc:Chain P G N M ops s ks val) (me:Hz G ops=true)
include hc me
theorem Zkt{c0:Ctx}{w0:World}{df:Nat->Bool}{a:Act}{w:World}{c d:Nat}(hI:Inv P G N M ops s val c0 w0 df a w c d)(iL:∀i,i<ops.size->df i=true):∃cx,fk N M c0 w0 cx w (s ops.size) a:=by
 obtain⟨cx,hm,hR,hE,nJ⟩:=hI.ctx
 have hd:d=ops.size:=by
  by_cases h:d<ops.size
  ·have:=iL d h
   rw[hI.post d (aO _)]at this;cases this
  ·have:=hI.dn;omega
 subst hd
 have Vm:=hI.cd
 have hl:∀k,k<ops.size-c->df (c+k)=true:=λk hk=>iL _ (by omega)
 refine⟨cx,hm,λr=>?_,λt=>?_,hI.size,hI.defers,hI.fw,hI.gk,nJ⟩
 ·rw[hR,Rx hc hI.quiet hI.dn (by omega) hl,show c+(ops.size-c)=ops.size by omega]
 ·have:=hE t
  rw[Rw hc hI.quiet hI.dn (by omega) hl]at this
  rwa [show c+(ops.size-c)=ops.size by omega]at this
theorem zD{c0:Ctx}{w0:World}{Q:Exit->Act->World->Prop}(hQ:∀c w a,fk N M c0 w0 c w (s ops.size) a->Q .normal a w):∀(fuel:Nat) (listed:Array Bool) (a:Act) (w:World) (c d:Nat),listed.size=ops.size->mr (λi=>listed.getD i false) ops.size<=fuel->
 Inv P G N M ops s val c0 w0 (λi=>listed.getD i false) a w c d->HE P .any ops Q fuel listed a w:=by
 intro fuel
 have AK:∀(listed:Array Bool) (i:Nat),listed.size=ops.size->(i∈Region.ready .any ops listed↔ ∃o,ops[i]?=some o/\listed.getD i false=false/\∀e∈o.after,Region.binds .any e=true->listed.getD e.on false=true):=by
  intro listed i fp
  unfold Region.ready
  rw[List.mem_filter,List.mem_range]
  constructor
  ·rintro⟨h1,h2⟩
   have ho:ops[i]?=some ops[i]:=aJ h1
   simp only[ho,aR,aG,aE,aS]at h2
   refine⟨_,ho,?_,λe he hb=>?_⟩
   ·have hl:i<listed.size:=by omega
    have:=h2.1
    simpa[aP,hl]using this
   ·have:=Array.all_eq_true'.1 h2.2 e he
    simpa[hb]using this
  ·rintro⟨o,ho,h1,h2⟩
   have cj:=(Array.getElem?_eq_some_iff.1 ho).1
   refine⟨cj,?_⟩
   simp only[ho,aR,aG,aE,aS]
   have hl:i<listed.size:=by omega
   refine⟨by simpa[aP,hl]using h1,Array.all_eq_true'.2 λe he=>?_⟩
   cases hb:Region.binds .any e with
   |false=>rfl
   |true=>simpa[hb]using h2 e he hb
 have j0:∀(listed:Array Bool),listed.size=ops.size->Region.ready .any ops listed=[]->∀i,i<ops.size->listed.getD i false=true:=by
  intro listed fp he i
  induction i using Nat.strongRecOn with
  |_ i ih=>
   intro hi
   cases hl:listed.getD i false with
   |true=>rfl
   |false=>
    exfalso
    have ho:ops[i]?=some ops[i]:=aJ hi
    have:i∈Region.ready .any ops listed:=(AK listed i fp).2 ⟨_,ho,hl,λe wO hb=>by
     have:=Zgp me ho e wO hb
     exact ih e.on this (by omega)⟩
    rw[he]at this;cases this
 induction fuel with
 |zero=>
  intro listed a w c d fp Bj hI
  have iL:=Vk (df:=λi=>listed.getD i false) (Nat.le_zero.1 Bj)
  refine⟨?_,?_⟩
  ·rw[List.eq_nil_iff_forall_not_mem]
   intro i hi
   obtain⟨o,ho,h1,_⟩:=(AK listed i fp).1 hi
   have:=iL i (Array.getElem?_eq_some_iff.1 ho).1
   rw[h1]at this;cases this
  ·obtain⟨cx,hs⟩:=Zkt hc me hI iL
   exact hQ cx w a hs
 |succ fuel ih=>
  intro listed a w c d fp Bj hI
  refine⟨λhe=>?_,λi hi=>?_⟩
  ·obtain⟨cx,hs⟩:=Zkt hc me hI (j0 listed fp he)
   exact hQ cx w a hs
  ·obtain⟨o,ho,h1,h2⟩:=(AK listed i fp).1 hi
   have cj:=(Array.getElem?_eq_some_iff.1 ho).1
   have rL:(listed.setIfInBounds i true).getD i false=true:=by
    have hl:i<listed.size:=by omega
    simp[aP,hl]
   have rM:∀k,k≠i->(listed.setIfInBounds i true).getD k false=listed.getD k false:=λk hk=>by
    rw[aF,aQ (Ne.symm hk),<-aF]
   refine xD hc me (fx:=λk=>(listed.setIfInBounds i true).getD k false) hI ho h1 rL rM h2 λa' w' c' d' Vn=>?_
   refine ih _ a' w' c' d' (by simpa using fp) ?_ Vn
   have:=Vl (df:=λk=>listed.getD k false) (fx:=λk=>(listed.setIfInBounds i true).getD k false) h1 rL rM cj
   omega
end
theorem fk.drew{N M:Nat}{c0:Ctx}{w0:World}{c:Ctx}{w:World}{st:St}{a:Act}(h:fk N M c0 w0 c w st a):fk N M c0 w0 c w.drew st a:=
 ⟨JR h.mem,h.rows,λt=>wQ (Mt c w) (h.env t),h.size,h.defers,h.fw,h.gk,h.reach.step (ks:=[]) (λk hk=>by simp[bq]at hk) h.gk
  (lu.toK ⟨JR h.mem,Mt c w,⟨rfl,rfl,rfl,aO _,λ_ _ _=>rfl⟩,λb hb=>.inl hb,λr row hr v=>.inl ⟨⟨row,hr⟩,v,rfl⟩⟩)⟩
theorem za{P:Program}(hm:P.follows .mixedOrders=true):∀(ro:Option Nat) (T:ff) (G:List ba) (N M id:Nat) (ops:Array Oper) (st:St) (Q:Ex->St->Prop),jt P T->jO P G->Hz G ops=true->(lF T G N M ops ops.toList st λst=>Q .normal st)->tz ro P N M (.region id ops true) st Q:=by
 intro ro T G N M id ops st Q hT hG hd h c0 w0 c w a hs
 obtain⟨s,ks,val,h1,h2,h3,h4,h5⟩:=Zkm hT hG ops.toList 0 st (by simp) h
 have hc:Chain P G N M ops s ks val:=⟨λi o ho=>h3 i o (aT _) ho,λi o t ho=>h4 i o t (aT _) ho,λi o t ho=>h5 i o t (aT _) ho⟩
 have hs:=hs.drew
 refine Qu8 hm ?_
 obtain⟨d,g1,g2,g3,g4⟩:=Mo G ops _ 0 rfl (aT _)
 have hz:∀i,(Array.replicate ops.size false).getD i false=false:=λi=>by
  by_cases h:i<ops.size
  ·simp[aP,h]
  ·simp[aP,h]
 refine zD hc hd (Q:=λe a' w'=>∃ex jn c',mu e=some ex/\Q ex jn/\fk N M c0 w0 c' w' jn a') (λc w a jd=>⟨_,_,c,rfl,by simpa using h2,jd⟩) ops.size _ a _ 0 d (by simp) (Vj _ _)
  ⟨g1,g2,λi hi=>by omega,λi _=>hz i,g3,g4,λj hj=>by simp[hz]at hj,hs.size,hs.defers,hs.fw,hs.gk,c,hs.mem,λr=>?_,λt=>?_,hs.reach⟩
 ·rw[Qp (λi _=>hz _),h1];exact hs.rows r
 ·rw[Ry (λi _=>hz _),h1];exact hs.env t
