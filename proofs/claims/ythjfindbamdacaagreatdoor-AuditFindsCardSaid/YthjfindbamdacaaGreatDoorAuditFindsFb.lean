import Derived.Test.YthjfindbamdacaaGreatDoorAuditFindsFk
import Derived.Laws.IdiomStrings
import Derived.Laws.BytesArg
import Derived.Laws.Cover3
import Derived.RangeFuncRecord
import Derived.OrdersIn
import Derived.LoopNIn
open List renaming getD->aK,getElem?_take->aU,getElem?_toArray->aY,getElem?_append_left->aZ,size_toArray->bA,getElem?_append_right->bB,length_take->bD,length_drop->bF,getElem?_eq_none->aM,range'->bK,map_append->bL,map_congr_left->bM,ext_getElem->bN,getElem_map->bO,getElem_range'->bP,map_toArray->bR
open Nat renaming mul_le_mul_right->aV,succ_mul->aW,zero_add->aX,add_mul->bC,le_refl->aO,add_zero->bG,le_trans->bH,lt_of_lt_of_le->bI,blt->bJ
open Bool renaming or_eq_true->aI,false_eq_true->aN
open Array renaming getD->aP,empty_append->bQ,toArray_toList->bS
open Option renaming bind_some->aL
set_option linter.all false
namespace Go.GD
open Go
theorem Zhu{P:Program}(w:World){t tx ty e:TypeId}{i:TypeInfo}(ht:P.underlying t=some (.slice e))(hi:P.info? e=some i)
 {a:Option Addr} {n cap m:Nat} {x:Value} {news:List Value} (hl:(Builtin.lenOf x).run P w=.ok m w) (hf:(Builtin.firstCells i.size (min m n) x).run P w=.ok news.toArray w) {w':World}
 (jT:∀b,a=some b->(storeCells b news).run P w=.ok () w') (oL:a=none->w'=w):
 (Builtin.copy_ #[t,tx] ty #[.slice a n cap,x]).run P w=.ok (.int .i64 (min m n:Nat)) w':=by
 cases a with
 |none=>
  have:=oL rfl
  subst this
  simp[Builtin.copy_,run_underlying ht,sizeOf,typeInfo,hi,hl,goInt,hf]
 |some b=>simp[Builtin.copy_,run_underlying ht,sizeOf,typeInfo,hi,hl,goInt,hf,jT b rfl]
theorem Z9s{I:ag}{w:World}{es:List (List D)}{news:List Value}{sz k:Nat}(h:iI I w es news.toArray 0 sz)(hk:k<=es.length):iI I w (es.take k) (news.take (k*sz)).toArray 0 sz:=by
 rw[wa]at h⊢
 intro i hi
 have iy:i<k:=by simp at hi;omega
 obtain⟨h1,h2⟩:=h i (by omega)
 have he:(es.take k).getD i []=es.getD i []:=by simp[aK,aU,iy]
 rw[he]
 refine⟨h1,?_⟩
 rw[tR]at h2⊢
 intro j hj
 obtain⟨v,hv,hp⟩:=h2 j hj
 refine⟨v,?_,hp⟩
 have cf:i*sz+j<k*sz:=by
  have:=aV sz (show i+1<=k by omega)
  rw[aW]at this
  omega
 simp only[aX,aY]at hv⊢
 rw[aU,if_pos cf]
 exact hv
theorem Qyy{I:ag}{w:World}{es ys:List (List D)}{A B:List Value}{sz:Nat}(h1:iI I w es A.toArray 0 sz)(hA:A.length=es.length*sz)(h2:iI I w ys B.toArray 0 sz):iI I w (es++ys) (A++B).toArray 0 sz:=by
 rw[wa]at h1 h2⊢
 intro i hi
 by_cases cf:i<es.length
 ·have he:(es++ys).getD i []=es.getD i []:=by simp[aK,aZ cf]
  rw[he]
  obtain⟨g1,g2⟩:=h1 i cf
  refine⟨g1,?_⟩
  rw[tR]at g2⊢
  intro j hj
  obtain⟨v,hv,hp⟩:=g2 j hj
  refine⟨v,?_,hp⟩
  have hl:=(Array.getElem?_eq_some_iff.1 hv).1
  simp only[aY,bA]at hv hl⊢
  rw[aZ hl];exact hv
 ·have iy:i-es.length<ys.length:=by simp at hi;omega
  have he:(es++ys).getD i []=ys.getD (i-es.length) []:=by simp[aK,bB (show es.length<=i by omega)]
  rw[he]
  obtain⟨g1,g2⟩:=h2 _ iy
  refine⟨g1,?_⟩
  rw[tR]at g2⊢
  intro j hj
  obtain⟨v,hv,hp⟩:=g2 j hj
  refine⟨v,?_,hp⟩
  simp only[aY]at hv⊢
  have e:0+i*sz+j=A.length+(0+(i-es.length)*sz+j):=by
   rw[hA,show i*sz=(es.length+(i-es.length))*sz by congr 1;omega,bC];omega
  rw[e,bB (by omega)]
  rw[show A.length+(0+(i-es.length)*sz+j)-A.length=0+(i-es.length)*sz+j by omega]
  exact hv
theorem Zoz{I:ag}{w:World}{es:List (List D)}{arr:Array Value}{sz k:Nat}(h:iI I w es arr 0 sz):iI I w (es.drop k) (arr.toList.drop (k*sz)).toArray 0 sz:=by
 have:=Ku (l:=k) h
 rw[wa]at this⊢
 intro i hi
 obtain⟨h1,h2⟩:=this i hi
 refine⟨h1,?_⟩
 rw[tR]at h2⊢
 intro j hj
 obtain⟨v,hv,hp⟩:=h2 j hj
 refine⟨v,?_,hp⟩
 simp only[aY,List.getElem?_drop]
 rw[<-hv]
 simp[Nat.add_assoc]
theorem yF{c:Ctx}{w:World}(hm:Mem c w){r:Nat}{row ak:Row}(hr:c.R r=some row)(h1:ak.box=row.box)(hb:row.box=false)(h2:ak.ty=row.ty)(h3:ak.sz=row.sz)(h4:ak.es.l=row.es.l):jk c w (c.jA r ak) w/\Mem (c.jA r ak) w:=by
 have hg:jk c w (c.jA r ak) w:=by
  refine⟨rfl,aO _,λb hb=>⟨hb,rfl⟩,λs x hs=>?_⟩
  by_cases e:s=r
  ·subst e
   rw[hr]at hs;cases hs
   exact⟨ak,by simp[Ctx.jA],h1,h2,h3,by rw[h4],rfl,Iff.rfl,λ_ a ha=>⟨a,ha,rfl⟩⟩
  ·exact⟨x,by simp[Ctx.jA,e,hs],rfl,rfl,rfl,rfl,rfl,Iff.rfl,λ_ a ha=>⟨a,ha,rfl⟩⟩
 have jz:∀s x,(c.jA r ak).R s=some x->∃x',c.R s=some x':=λs x hs=>by
  by_cases e:s=r
  ·exact⟨row,by rw[e];exact hr⟩
  ·exact⟨x,by simpa[Ctx.jA,e]using hs⟩
 refine⟨hg,λs x hs=>?_,λs q x y hs hq v1 v2 he=>?_,λb iz=>⟨(hm.fu b iz).1,λs x hs hv=>?_⟩,hm.top,hm.kM⟩
 ·by_cases e:s=r
  ·subst e
   simp only[Ctx.jA,if_true,Option.some.injEq]at hs
   subst hs
   rcases hm.row _ row hr with⟨g0,g1,g2,g3⟩|⟨g0,arr,g1,g2,g3⟩
   ·exact .inl ⟨g0,h1.trans g1,h4.trans g2,by rw[h3];exact g3⟩
   ·refine .inr ⟨g0,arr,by rw[h2];exact g1,by rw[h3];exact g2,?_⟩
    rw[if_neg (by rw[hb];simp)]at g3
    rw[if_neg (by rw[h1,hb];simp),h4,h3]
    exact g3
  ·have ji:c.R s=some x:=by simpa[Ctx.jA,e]using hs
   exact tS hg rfl Iff.rfl (λ_=>rfl) (hm.row s x ji)
 ·obtain⟨x',jD⟩:=jz s x hs
  obtain⟨y',Ai⟩:=jz q y hq
  exact hm.inj s q x' y' jD Ai v1 v2 he
 ·obtain⟨x',jD⟩:=jz s x hs
  exact(hm.fu b iz).2 s x' jD hv
theorem ya{P:Program}{T:fq}(hT:jy P T){t tx ty:TypeId}{x y:D}{R:Rows}{K:D->Rows->Prop}(h:tT T t tx x y R K):
 ∃ val R',K val R'/\∀c w vx vy,Mem c w->(∀r,c.R r=R.getD r none)->Rep c w x vx->Rep c w y vy->
  ∃v' w' c',(Builtin.copy_ #[t,tx] ty #[vx,vy]).run P w=.ok v' w'/\lN c w c' w'/\(∀r,c'.R r=R'.getD r none)/\Rep c' w' val v':=by
 unfold tT at h
 split at h
 ·rename_i e iL _ _ _ _ _ ht
  have hk:=mU hT ht
  simp only at hk
  split at h
  ·rename_i ke sz lO cs z q kx _ _ _ _ _ he htx
   obtain⟨i0,rK,EI,_,Bi,Aj,_⟩:=DE (hT.get he)
   simp only at EI
   split at h
   ·rename_i sy ys j0
    simp only[da,aE,aI]at h
    obtain⟨⟨⟨h0,h1⟩,h5⟩,h⟩:=h
    have h0:0<sz:=lE h0
    have h5:sy=sz\/ys.l=[]:=h5.imp bE SA
    have core:∀(r o n k:Nat) (jX:TypeId) (es jb:ao),jb.l=es.l.take o++ys.l.take k++es.l.drop (o+k)->R.getD r none=some ⟨false,jX,sz,es⟩->k=min ys.l.length n->o+n<=es.l.length->∀c w vx vy,Mem c w->(∀r,c.R r=R.getD r none)->
     ((n=0/\∃a,vx=.slice a 0 0)\/(¬c.V r/\∃cap arr,vx=.slice (some ⟨c.ρ r,o*sz,none⟩) n cap/\w.heap[c.ρ r]?=some (.cells arr jX (0,0))))->Rep c w y vy->
     ∃v' w' c',(Builtin.copy_ #[t,tx] ty #[vx,vy]).run P w=.ok v' w'/\lN c w c' w'/\(∀q,c'.R q=(R.set r (some ⟨false,jX,sz,jb⟩)).getD q none)/\v'=.int .i64 (k:Nat):=by
     intro r o n k jX es jb Il hr EF Kv c w vx vy hm hR hx hy
     have o4:mH c R:=λr row ak g1 g2=>by rw[hR,g2]at g1;exact(Option.some.inj g1).symm
     obtain⟨news,s1,s2,s3,s4⟩:=v6 (P:=P) h0 j0 h5 hm o4 hy
     have cb:c.R r=some ⟨false,jX,sz,es⟩:=by rw[hR];exact hr
     rcases hx with⟨hn0,a,hx⟩|⟨hV,cap,arr,hx,hh⟩
     ·subst hx
      have Aj:k=0:=by omega
      have ig:=Zhu (P:=P) w (ty:=ty) (tx:=tx) (a:=a) (n:=0) (cap:=0) (news:=[]) (w':=w) hk.1 rK s2 (by rw[EI];simpa using s3 0 (Nat.zero_le _) w rfl) (λb _=>by simp[storeCells]) (λ_=>rfl)
      have hl:jb.l=es.l:=by rw[Il,Aj];simp
      obtain⟨u1,u2⟩:=yF hm cb (ak:=⟨false,jX,sz,jb⟩) rfl rfl rfl rfl hl
      refine⟨_,w,c.jA r ⟨false,jX,sz,jb⟩,ig,⟨u2,u1,Fr.refl _ w,λb hb=>.inl hb,λq row hq v=>.inl ⟨?_,v,rfl⟩⟩,λq=>?_,by rw[Aj];simp⟩
      ·by_cases e:q=r
       ·exact⟨_,by rw[e];exact cb⟩
       ·exact⟨row,by simpa[Ctx.jA,e]using hq⟩
      ·rw[Wj hr]
       simp only[Ctx.jA]
       split
       ·rfl
       ·exact hR q
     ·subst hx
      obtain⟨cur,ha,_,hE⟩:=hm.real cb hV
      simp only at ha
      rw[hh]at ha;cases ha
      simp only[aN,if_false]at hE
      have kO:es.l.length*sz<=arr.size:=by
       by_cases he:es.l.length=0
       ·rw[he];omega
       ·have:=Z5a hE h0 (show es.l.length-1<es.l.length by omega)
        have e1:es.l.length*sz=(es.l.length-1)*sz+sz:=by rw[show es.l.length*sz=(es.l.length-1+1)*sz by congr 1;omega,aW]
        omega
      have Wk:k<=ys.l.length/\k<=n:=by omega
      have ra:o*sz+0+(news.take (k*sz)).length<=arr.size:=by
       have h1:(o+k)*sz<=es.l.length*sz:=aV _ (by omega)
       rw[bC]at h1
       rw[bD];omega
      have hlen:(news.take (k*sz)).length=k*sz:=by
       have:=aV sz Wk.1
       rw[bD];omega
      have jT:=run_storeCells_at (P:=P) (c.ρ r) (o*sz) jX (news.take (k*sz)) 0 arr w hh ra (λu hu=>iI.one s4 s1 u (List.mem_of_mem_take hu))
      have ig:=Zhu (P:=P) w (ty:=ty) (tx:=tx) (a:=some ⟨c.ρ r,o*sz,none⟩) (n:=n) (cap:=cap) (news:=news.take (k*sz)) (w':=w.setRow (c.ρ r) (arr.toList.take (o*sz+0)++news.take (k*sz)++arr.toList.drop (o*sz+0+(news.take (k*sz)).length)).toArray) hk.1 rK s2 (by rw[EI,<-EF];exact s3 k Wk.1 w rfl) (λb hb=>by cases hb;simpa using jT) (λh=>by cases h)
      have wc:jb.l.length=es.l.length:=by rw[Il];simp only[lA,bD,bF];omega
      have hw:=hm.write (ak:=⟨false,jX,sz,jb⟩) cb hV hh (arr:=(arr.toList.take (o*sz+0)++news.take (k*sz)++arr.toList.drop (o*sz+0+(news.take (k*sz)).length)).toArray)
       (by simp only[bA,lA,bD,bF,Array.length_toList];simp only[bD]at ra;omega) rfl rfl rfl wc
      have gy:=hw.2 ⟨h0,by
       simp only[aN,if_false]
       rw[Il]
       refine od (λb hb=>⟨hb,(hw.1.I b hb).2⟩) _ _ _ _ ?_
       have p1:=Z9s (k:=o) (I:=c.I) (w:=w) (news:=arr.toList) (es:=es.l) (sz:=sz) (by simpa using hE) (by omega)
       have p2:=Z9s (k:=k) s4 Wk.1
       have p3:=Zoz (k:=o+k) hE
       have l1:(arr.toList.take (o*sz)).length=(es.l.take o).length*sz:=by
        have:=aV sz (show o<=es.l.length by omega)
        rw[bD,bD,show min o es.l.length=o by omega,show arr.toList.length=arr.size from rfl];omega
       have q1:=Qyy p1 l1 p2
       have l2:(arr.toList.take (o*sz)++news.take (k*sz)).length=(es.l.take o++ys.l.take k).length*sz:=by
        rw[lA,l1,hlen,lA,bC,bD (l:=ys.l),show min k ys.l.length=k by omega]
       have q2:=Qyy q1 l2 p3
       have e2:o*sz+0+(news.take (k*sz)).length=(o+k)*sz:=by rw[hlen,bC];omega
       rw[e2]
       simpa using q2⟩
      refine⟨_,_,c.jA r ⟨false,jX,sz,jb⟩,ig,⟨gy,hw.1,(SB w _ _).mono λb _ hb=>⟨r,_,cb,hV,hb.symm⟩,λb hb=>.inl hb,λq ak hq v=>.inl ⟨?_,v,rfl⟩⟩,λq=>?_,by rw[EF]⟩
      ·by_cases e:q=r
       ·exact⟨_,by rw[e];exact cb⟩
       ·exact⟨ak,by simpa[Ctx.jA,e]using hq⟩
      ·rw[Wj hr]
       simp only[Ctx.jA]
       split
       ·rfl
       ·exact hR q
    cases x<;>simp only at h
    case all r=>
     split at h
     ·rename_i jX s es hr
      simp only[da,nk]at h
      have hs:=bE h.1
      subst hs
      refine⟨_,_,h.2,λc w vx vy hm hR hx hy=>?_⟩
      obtain⟨row,q1,q2,hv⟩:=hx
      have cb:row=⟨false,jX,s,es⟩:=by rw[hR,hr]at q1;exact(Option.some.inj q1).symm
      subst cb
      have jD:(es.l.length=0/\∃a,vx=.slice a 0 0)\/(¬c.V r/\∃cap arr,vx=.slice (some ⟨c.ρ r,0*s,none⟩) es.l.length cap/\w.heap[c.ρ r]?=some (.cells arr jX (0,0))):=by
       rcases hv with⟨hV,a,hv,_⟩|⟨hV,cap,arr,hv,h1,h2,h3,h4⟩
       ·have:=(hm.oe q1 hV).2.1
        simp only at this
        exact .inl ⟨by rw[this];rfl,a,hv⟩
       ·exact .inr ⟨hV,cap,arr,by rw[Nat.zero_mul];exact hv,h3⟩
      obtain⟨v',w',c',p1,p2,p3,p4⟩:=core r 0 es.l.length _ jX es ((ys.take (min ys.len es.len)).app (es.drop (min ys.len es.len))) (by rw[ao.j4,ao.iY,ao.kh,ao.iv,ao.iv];simp) hr rfl (by omega) c w vx vy hm hR jD hy
      exact⟨v',w',c',p1,p2,p3,by rw[p4,ao.iv,ao.iv];rfl⟩
     ·exact h.elim
    case own r o n=>
     split at h
     ·rename_i jX s es hr
      simp only[da,nk]at h
      have hs:=bE h.1
      subst hs
      refine⟨_,_,h.2,λc w vx vy hm hR hx hy=>?_⟩
      obtain⟨row,q1,q2,ho,hv⟩:=hx
      have cb:row=⟨false,jX,s,es⟩:=by rw[hR,hr]at q1;exact(Option.some.inj q1).symm
      subst cb
      have jD:(n=0/\∃a,vx=.slice a 0 0)\/(¬c.V r/\∃cap arr,vx=.slice (some ⟨c.ρ r,o*s,none⟩) n cap/\w.heap[c.ρ r]?=some (.cells arr jX (0,0))):=by
       rcases hv with⟨h0,a,hv,_⟩|⟨hV,cap,arr,h1,h2,h3,hv,h4⟩
       ·exact .inl ⟨h0,a,hv⟩
       ·exact .inr ⟨hV,cap,arr,hv,h3⟩
      obtain⟨v',w',c',p1,p2,p3,p4⟩:=core r o n _ jX es (((es.take o).app (ys.take (min ys.len n))).app (es.drop (o+min ys.len n))) (by rw[ao.j4,ao.j4,ao.iY,ao.iY,ao.kh,ao.iv]) hr rfl ho c w vx vy hm hR jD hy
      exact⟨v',w',c',p1,p2,p3,by rw[p4,ao.iv];rfl⟩
     ·exact h.elim
   ·exact h.elim
  ·exact h.elim
 ·exact h.elim
theorem Zmo{mx:Bool}{x y:D}{K:D->Prop}(h:we mx x y K):∃val,K val/\∀(P:Program) c w vx vy,Rep c w x vx->Rep c w y vy->∃u,((mx=false->∀dc ty,(Builtin.min_ dc ty #[vx,vy]).run P w=.ok u w)/\(mx=true->∀dc ty,(Builtin.max_ dc ty #[vx,vy]).run P w=.ok u w))/\Rep c w val u:=by
 unfold we at h
 split at h
 ·rename_i k a k' b
  simp only[da,decide_eq_true_eq]at h
  obtain⟨rfl,h⟩:=h
  refine⟨_,h,λP c w vx vy hx hy=>⟨_,⟨λe dc ty=>?_,λe dc ty=>?_⟩,rfl⟩⟩
  ·subst e
   rw[Rep.int.1 hx,Rep.int.1 hy]
   simp[Builtin.min_,Builtin.min2]
  ·subst e
   rw[Rep.int.1 hx,Rep.int.1 hy]
   simp[Builtin.max_,Builtin.max2]
 ·exact h.elim
theorem vF{P:Program}{T:fq}(hT:jy P T){t:TypeId}{es:ao}{K:D->Prop}(h:BJ T t es K):K (.pY es)/\∀s fr c w vx vy,Rep c w (.sl s es fr) vx->Rep c w .du vy->∃u,(∀x y,(do eqGuard .eql t x y vx vy;binOp .eql t vx vy).run P w=.ok u w)/\Rep c w (.pY es) u:=by
 unfold BJ at h
 split at h
 ·rename_i e n _ _ _ _ _ ht
  have hk:=mU hT ht
  simp only at hk
  refine⟨h,λs fr c w vx vy hx hy=>?_⟩
  obtain⟨a,cap,hv,hc,ij⟩:=hx
  rw[show vy=_ from hy,hv]
  refine⟨.bool a.isNone,λx y=>?_,a.isNone,rfl,λe'=>?_⟩
  ·have hg:(eqGuard .eql t x y (.slice a es.l.length cap) (.slice none 0 0)).run P w=.ok () w:=rfl
   rw[Sem.run_bind,hg]
   simp only[Result.andThen_ok,binOp]
   simp only[run_equal_slice_nil w t e a es.l.length cap hk.1,Sem.run_bind,Result.andThen_ok,Sem.run_pure]
  ·rcases ij with ij|⟨b,off,arr,ty,fz,ha,_⟩
   ·exact ij
   ·subst ha;cases e'
 ·exact h.elim
theorem Zo9{I:ag}{w:World}{l:List Int}{news:List Value}(h:iI I w (ao.ints .u8 l).l news.toArray 0 1)(hl:news.length=(ao.ints .u8 l).l.length*1):news=l.map (Value.int .u8):=by
 have tu:news.length=l.length:=by simpa[ao.len]using hl
 apply List.ext_getElem?
 intro i
 by_cases hi:i<l.length
 ·obtain⟨h1,h2⟩:=wa.1 h i (by simpa[ao.len]using hi)
  rw[ao.nm _ (show i<(ao.ints .u8 l).len from hi)]at h2
  simp only[ao.get,BK,Ak,si,rL,sj,sq,sr,ss,tv,tU,tV,tW,tX,tY,tZ,ua,ub,uc,and_true]at h2
  obtain⟨v,hv,hp⟩:=h2
  simp only[aX,Nat.mul_one,bG,aY]at hv
  rw[hv,hp]
  simp[aK,hi]
 ·rw[aM (by omega),aM (by simp;omega)]
theorem qG{P:Program}{T:fq}(hT:jy P T){s e d:TypeId}{n a1 a2:Nat}{a3:List rb}{a4:Option (List D)}{a5:Bool}(hs:T.get s=some ⟨.slice e n,a1,a2,a3,a4,a5⟩){x:D}{R:Rows}{K:D->Prop}(h:wg T e d x R K):
 ∃val,K val/\∀c w v,Mem c w->mH c R->Rep c w x v->Gf P (convert s d v) w c val:=by
 unfold wg at h
 split at h
 ·rename_i he hd
  have oa:=mU hT hs
  have rI:=mU hT he
  have Kw:=mU hT hd
  simp only at oa rI Kw
  split at h
  ·rename_i sy es j0
   split at h
   rotate_left
   ·exact h.elim
   rename_i l hto
   have Kx:=ao.toI_l hto
   simp only[da,aI]at h
   obtain⟨h5,h⟩:=h
   have h5:sy=1\/es.l=[]:=h5.imp bE SA
   refine⟨_,h,λc w v hm hA hr=>?_⟩
   have hsl:∃a cap,v=.slice a es.l.length cap:=by
    cases x<;>simp only[su]at j0<;>try(cases j0;done)
    case du=>cases j0;exact⟨none,0,hr⟩
    case emp=>cases j0;obtain⟨a,hr,_⟩:=hr;exact⟨a,0,hr⟩
    case sl=>cases j0;obtain⟨a,cap,hv,_⟩:=hr;exact⟨a,cap,hv⟩
    case all r=>
     split at j0
     ·rename_i jX s' jb hR
      cases j0
      obtain⟨row,g1,g2,hv⟩:=hr
      have:=hA r row _ g1 hR
      subst this
      rcases hv with⟨hV,a,hv,_⟩|⟨hV,cap,arr,hv,_⟩
      ·have he:=(hm.oe g1 hV).2.1
       simp only at he
       exact⟨a,0,by rw[he];exact hv⟩
      ·exact⟨_,cap,hv⟩
     ·cases j0
    case own r o m=>
     split at j0
     ·rename_i jX s' jb hR
      cases j0
      obtain⟨row,g1,g2,g5,hv⟩:=hr
      have:=hA r row _ g1 hR
      subst this
      simp only at g5
      have hlen:((jb.drop o).take m).l.length=m:=by rw[ao.iY,ao.kh];simp only[bD,bF];omega
      rw[hlen]
      rcases hv with⟨h0,a,hv,_⟩|⟨hV,cap,arr,_,_,_,hv,_⟩
      ·subst h0;exact⟨a,0,hv⟩
      ·exact⟨_,cap,hv⟩
     ·cases j0
   obtain⟨a,cap,hv⟩:=hsl
   subst hv
   obtain⟨news,s1,s2,s3,s4⟩:=vZ (P:=P) (by omega) j0 h5 hm hA hr
   rw[Kx]at s1 s4
   have hn:=Zo9 s4 s1
   have hlen:es.l.length=l.length:=by rw[Kx];simp[ao.len]
   have hf:=s3 es.l.length (aO _) w rfl
   rw[List.take_of_length_le (by rw[hn,hlen];simp)]at hf
   refine⟨.string ⟨(bytesOf l).toArray⟩,?_,rfl⟩
   rw[run_convert_bytes_string w s d e a es.l.length cap oa.1 rI Kw]
   cases a with
   |none=>
    simp only[Builtin.firstCells,Sem.run_pure,Result.ok.injEq,and_true]at hf
    have h1:news=[]:=by
     have:=congrArg Array.toList hf
     simpa using this.symm
    have he:l=[]:=by rw[h1]at hn;simpa using hn.symm
    subst he
    simp only[Conv.bytesToString,Sem.run_pure,bytesOf,List.map_nil]
    rfl
   |some a=>
    simp only[Builtin.firstCells,Nat.mul_one]at hf
    rw[hn]at hf
    rw[run_bytesToString w a es.l.length cap _ hf,foldl_push_bytes]
    have he0:ByteArray.empty.data= #[]:=rfl
    rw[he0]
    simp[bytesOf]
  ·exact h.elim
 ·exact h.elim
structure Ad(c0:Ctx)(w0:World)(c:Ctx)(w:World):Prop where
 bz:jk c0 w0 c w
 fr:Fr (λb=>(∃r x,c0.R r=some x/\¬c0.V r/\c0.ρ r=b)\/c0.X b) w0 w
 fu:∀b,c.I b->c0.I b\/c0.X b\/w0.heap.size<=b
 og:∀r row,c.R r=some row->¬c.V r->((∃x,c0.R r=some x)/\¬c0.V r/\c.ρ r=c0.ρ r)\/c0.X (c.ρ r)\/w0.heap.size<=c.ρ r
 xb:∀b,c0.X b->c0.base<=b
theorem Ad.refl(c:Ctx)(w:World):Ad {c with X:=λ_=>False} w c w:=
 ⟨⟨rfl,aO _,λ_ h=>⟨h,rfl⟩,λ_ row h=>⟨row,h,rfl,rfl,rfl,rfl,rfl,Iff.rfl,λ_ arr h=>⟨arr,h,rfl⟩⟩⟩,Fr.refl _ w,λ_ h=>.inl h,λ_ row h v=>.inl ⟨⟨row,h⟩,v,rfl⟩,λ_ h=>h.elim⟩
theorem Zjr{c0 c:Ctx}{w0 w:World}{M:Nat}{ks:List Nat}(hM:∀k,bw k ks=true->M<=k)(EJ:∀r row,c0.R r=some row->r<M)(h:jk c0 w0 c w):jk c0 w0 (c.kill ks) w:=by
 refine⟨h.base,h.top,h.I,λr row hr=>?_⟩
 obtain⟨ak,g1,g2,g3,g4,g5,g6,gV,g7⟩:=h.R r row hr
 obtain⟨s1,s2,s3,s4⟩:=wh ks ak
 have cf:=EJ r row hr
 refine⟨ak.kill ks,?_,s1.trans g2,s2.trans g3,s3.trans g4,s4.trans g5,g6,gV,g7⟩
 simp only[Ctx.kill]
 rw[if_neg (λe=>by have:=hM r e;omega),g1];rfl
theorem Ad.step{c0 c c':Ctx}{w0 w w':World}{M:Nat}{ks:List Nat}(hM:∀k,bw k ks=true->M<=k)(EJ:∀r row,c0.R r=some row->r<M)(h:Ad c0 w0 c w)(n:jE ks c w c' w'):Ad c0 w0 c' w':=by
 have BL:∀s x,bw s ks=true->c.R s=some x->¬c.V s->c0.X (c.ρ s)\/w0.heap.size<=c.ρ s:=λs x hs hx v'=>by
  rcases h.og s x hx v' with⟨⟨y,hy⟩,_⟩|e'
  ·have:=EJ s y hy;have:=hM s hs;omega
  ·exact e'
 refine⟨(Zjr hM EJ h.bz).trans n.bz,⟨n.fr.os.trans h.fr.os,n.fr.tape.trans h.fr.tape,n.fr.output.trans h.fr.output,bH h.fr.size n.fr.size,λb hb hx=>?_⟩,λb hb=>?_,λr row hr hv=>?_,h.xb⟩
 ·have cf:b<w.heap.size:=bI hb h.fr.size
  refine(n.fr.heap b cf fun⟨r,x,hr,v,e⟩=>?_).trans (h.fr.heap b hb hx)
  rcases h.og r x hr v with⟨⟨y,hy⟩,v',e'⟩|e'|e'
  ·exact hx (.inl ⟨r,y,hy,v',by rw[<-e',e]⟩)
  ·exact hx (.inr (by rw[<-e];exact e'))
  ·omega
 ·rcases n.fu b hb with h1|⟨s,x,hs,hx,v',e⟩|h1
  ·exact h.fu b h1
  ·rcases BL s x hs hx v' with h1|h1
   ·exact .inr (.inl (by rw[<-e];exact h1))
   ·exact .inr (.inr (by omega))
  ·have:=h.fr.size;exact .inr (.inr (by omega))
 ·rcases n.og r row hr hv with⟨⟨x,hx⟩,v',e⟩|⟨s,x,hs,hx,v',e⟩|e
  ·rcases h.og r x hx v' with⟨h1,h2,e'⟩|e'|e'
   ·exact .inl ⟨h1,h2,e.trans e'⟩
   ·exact .inr (.inl (by rw[e];exact e'))
   ·exact .inr (.inr (by omega))
  ·rcases BL s x hs hx v' with h1|h1
   ·exact .inr (.inl (by rw[e];exact h1))
   ·exact .inr (.inr (by omega))
  ·have:=h.fr.size;exact .inr (.inr (by omega))
def lX(n:Nat)(w:World)(ds:List Deferred):Prop:=∃bs:List Nat,bs.Nodup/\ds=bs.map (λb=>({target:=.collected b,args:= #[]}:Deferred))/\∀b∈bs,n<=b/\w.heap[b]?=some (.deferred (some []))
theorem lX.nil{n:Nat}{w:World}:lX n w []:=⟨[],List.nodup_nil,rfl,λb hb=>by simp at hb⟩
theorem lX.to{n:Nat}{w w':World}{ds:List Deferred}(h:lX n w ds)(hf:∀b:Nat,w.heap[b]?=some (Obj.deferred (some []))->w'.heap[b]?=some (Obj.deferred (some []))):lX n w' ds:=by
 obtain⟨bs,h1,h2,h3⟩:=h
 exact⟨bs,h1,h2,λb hb=>⟨(h3 b hb).1,hf b (h3 b hb).2⟩⟩
theorem lX.step{n:Nat}{c:Ctx}{w w':World}{ds:List Deferred}(h:lX n w ds)(hm:Mem c w)(hf:Fr (λb=>∃r x,c.R r=some x/\¬c.V r/\c.ρ r=b) w w'):lX n w' ds:=by
 refine h.to λb h2=>(hf.heap b (Array.getElem?_eq_some_iff.1 h2).1 fun⟨r,x,hr,hV,e⟩=>?_).trans h2
 rcases hm.row r x hr with h3|⟨_,arr,h3,_⟩
 ·exact hV h3.1
 ·rw[e,h2]at h3;cases h3
theorem lX.put{n:Nat}{w:World}{a:Act}{dst:Option Tmp}{v:Value}(h:lX n w a.defers):lX n w (a.put dst v).defers:=by
 cases dst<;>exact h
structure fv(N M:Nat)(c0:Ctx)(w0:World)(c:Ctx)(w:World)(st:St)(a:Act):Prop where
 mem:Mem c w
 rows:∀r,c.R r=st.rows.getD r none
 env:∀t,Rep c w (look st.env t) (a.tmps.getD t undef)
 size:N<=a.tmps.size
 defers:lX w0.heap.size w a.defers
 gh:c0.base<=w0.heap.size
 gw:∀r row,c0.R r=some row->r<M
 reach:Ad c0 w0 c w
theorem fv.base{N M:Nat}{c0:Ctx}{w0:World}{c:Ctx}{w:World}{st:St}{a:Act}(h:fv N M c0 w0 c w st a):c.base<=w.heap.size:=by
 rw[h.reach.bz.base];exact bH h.gh h.reach.fr.size
theorem Kr{c:Ctx}{w:World}{env:List (Nat×D)}{a:Act}(f:Nat):Rep c w (bq env (.func f)) (a.eval (.func f)):=by
 simp only[bq,Act.eval]
 cases h:bJ f YB with
 |false=>trivial
 |true=>exact⟨[],.inl ⟨lE h,rfl⟩,trivial⟩
theorem Nc{c:Ctx}{w:World}{env:List (Nat×D)}{a:Act}(h:∀t,Rep c w (look env t) (a.tmps.getD t undef))(x:Operand):Rep c w (bq env x) (a.eval x):=by
 cases x with
 |tmp t=>exact h t
 |const v=>
  simp only[bq,Act.eval]
  cases hv:Gd v with
  |none=>trivial
  |some d=>exact M5 hv c w
 |global g=>trivial
 |func f=>exact Kr f
def r9(env:List (Nat×D))(dst:Option Tmp)(d:D):List (Nat×D):=match dst with|none=>env|some t=>(t,d)::env
theorem Bg(env:List (Nat×D))(t:Nat)(d:D)(s:Nat):look ((t,d)::env) s=if t=s then d else look env s:=by
 simp only[look]
 cases hb:Nat.beq t s with
 |true=>rw[if_pos (bE hb)]
 |false=>rw[if_neg (λe=>by rw[e]at hb;simp at hb)]
theorem Z8a{c:Ctx}{w:World}{env:List (Nat×D)}{a:Act}{N:Nat}(hN:N<=a.tmps.size){dst:Option Tmp}(hd:∀t,dst=some t->t<N){d:D}{v:Value}(h:∀t,Rep c w (look env t) (a.tmps.getD t undef))(hv:Rep c w d v)(t:Nat):
 Rep c w (look (r9 env dst d) t) ((a.put dst v).tmps.getD t undef):=by
 cases dst with
 |none=>exact h t
 |some s=>
  have hs:=hd s rfl
  simp only[r9,Act.put,Bg]
  by_cases e:s=t
  ·subst e
   rw[if_pos rfl]
   have cf:s<a.tmps.size:=bI hs hN
   simpa[aP,cf]using hv
  ·rw[if_neg e]
   have:=h t
   simpa[Array.getElem?_setIfInBounds_ne e]using this
def jq:List Operand->Nat
 |[]=>1
 |.tmp t::l=>t+1+jq l
 |_::l=>jq l
theorem Wl:∀{l:List Operand},0<jq l
 |[]=>by simp[jq]
 |x::l=>by cases x<;>simp only[jq]<;>have:=Wl (l:=l)<;>omega
theorem SC{t:Nat}:∀{l:List Operand},.tmp t∈l->t<jq l
 |x ::l,h=>by
  rcases List.mem_cons.1 h with e|e
  ·subst e;simp only[jq];omega
  ·have:=SC e
   cases x<;>simp only[jq]<;>omega
def Gg(B:Nat):List iu->List (Nat×D)
 |[]=>[]
 |x::l=>(B,x.d)::Gg (B+1) l
theorem Nd{env:List (Nat×D)}:∀{cs:List iu} {B t:Nat},look (Gg B cs++env) t=if h:B<=t/\t-B<cs.length then(cs[t-B]'h.2).d else look env t
 |[],B,t=>by simp[Gg]
 |x ::l,B,t=>by
  simp only[Gg,List.cons_append,Bg,Nd (cs:=l) (B:=B+1)]
  by_cases e:B=t
  ·subst e;simp
  ·rw[if_neg e]
   by_cases h:B+1<=t/\t-(B+1)<l.length
   ·rw[dif_pos h,dif_pos (by simp;omega)]
    have:t-B=(t-(B+1))+1:=by omega
    simp only[this,List.getElem_cons_succ]
   ·rw[dif_neg h,dif_neg (by simp;omega)]
def EK(args:Array Operand)(n:Nat):Array Operand:=(args.toList++(bK (jq args.toList) n).map Operand.tmp).toArray
def tw(a:Act)(B:Nat)(us:List Value):Act:={tmps:=((List.range B).map (λi=>a.tmps.getD i undef)++us).toArray,defers:=[]}
theorem Zgs{a:Act}{B:Nat}{us:List Value}{t:Nat}(h:t<B):(tw a B us).tmps.getD t undef=a.tmps.getD t undef:=by
 simp[tw,aP,h,List.getElem_append]
 omega
theorem Zgy{a:Act}{B:Nat}{us:List Value}{i:Nat}:(tw a B us).tmps.getD (B+i) undef=us.getD i undef:=by
 simp only[tw,Array.getD_eq_getD_getElem?,aY]
 rw[bB (by simp)]
 simp[aK]
theorem oM.length{c:Ctx}{w:World}:∀{cs:List iu} {us:List Value},oM c w cs us->us.length=cs.length
 |[],[],_=>rfl
 |_::_,_::_,h=>by simp[oM.length h.2]
 |[],_::_,h=>h.elim
 |_::_,[],h=>h.elim
theorem oM.get{c:Ctx}{w:World}:∀{cs:List iu} {us:List Value},oM c w cs us->∀i (h:i<cs.length),SD c w (cs[i]'h) (us.getD i undef)
 |[],[],_,i,h=>by simp at h
 |_::_,_::_,h,0,_=>by simpa using h.1
 |_::_,_::_,h,i+1,hi=>by simpa using oM.get h.2 i (by simpa using hi)
 |[],_::_,h,_,_=>h.elim
 |_::_,[],h,_,_=>h.elim
theorem Z92{env:List (Nat×D)}{args:Array Operand}{cs:List iu}:(EK args cs.length).toList.map (bq (Gg (jq args.toList) cs++env))=args.toList.map (bq env)++cs.map iu.d:=by
 simp only[EK,bL]
 congr 1
 ·refine bM λx hx=>?_
  cases x with
  |tmp t=>simp only[bq,Nd];rw[dif_neg (by have:=SC hx;omega)]
  |_=>rfl
 ·refine bN (by simp) λi h1 h2=>?_
  have:i<cs.length:=by simpa using h2
  simp only[bO,bP,bq,Nd]
  rw[dif_pos (by omega)]
  congr 1
  simp
theorem Qz5{a:Act}{args:Array Operand}{us:List Value}:(EK args us.length).toList.map (tw a (jq args.toList) us).eval=args.toList.map a.eval++us:=by
 simp only[EK,bL]
 congr 1
 ·refine bM λx hx=>?_
  cases x with
  |tmp t=>exact Zgs (SC hx)
  |_=>rfl
 ·refine bN (by simp) λi h1 h2=>?_
  have:i<us.length:=h2
  simp only[bO,bP,Act.eval,Nat.one_mul]
  rw[Zgy]
  simp[aK,this]
theorem BM{c:Ctx}{w:World}{env:List (Nat×D)}{a:Act}{args:Array Operand}{cs:List iu}{us:List Value}(hl:∀x∈args.toList,Rep c w (bq env x) (a.eval x))(hc:oM c w cs us):∀x∈(EK args cs.length).toList,Rep c w (bq (Gg (jq args.toList) cs++env) x) ((tw a (jq args.toList) us).eval x):=by
 intro x hx
 simp only[EK,List.mem_append,List.mem_map]at hx
 rcases hx with hx|⟨t,ht,rfl⟩
 ·have:=hl x hx
  cases x with
  |tmp t=>
   have cf:=SC hx
   simp only[bq,Nd,Act.eval]
   rw[dif_neg (by omega),Zgs cf]
   exact this
  |_=>exact this
 ·rw[List.mem_range'_1]at ht
  obtain⟨i,hi,rfl⟩:∃i:Nat,i<cs.length/\t=jq args.toList+i:=⟨t-jq args.toList,Nat.sub_lt_left_of_lt_add ht.1 ht.2,(Nat.add_sub_cancel' ht.1).symm⟩
  have h2:=oM.get hc i hi
  have h3:look (Gg (jq args.toList) cs++env) (jq args.toList+i)=(cs[i]'hi).d:=by
   rw[Nd,dif_pos ⟨by omega,by omega⟩]
   congr 1
   simp
  simp only[bq,Act.eval]
  rw[h3,Zgy]
  exact Rep.Ky (VRep.EL (Wm.1 h2))
theorem qaD{P:Program}{f:FuncId}(he:∀args w,(callFunc f args).run P w=.ok (.enter f args) w){dst:Option Tmp}{t:Tmp}{args:Array Operand}{dc:Array TypeId}{type:TypeId}{pos:String}{after:Array Edge}{guard:Option (Nat×Bool)}{a:Act}{w:World}{us:List Value}
 (ht:a.eval (.tmp t)=.func (.func f) #[] us.toArray) {K:Act->World->Prop} {Q:Exit->Act->World->Prop}
 (h:(⟨some 0,.call ⟨.value (.func f),EK args us.length,dc⟩,type,pos,after,guard⟩:Oper).nj P (tw a (jq args.toList) us) w (λa' w'=>K (a.put dst (a'.tmps.getD 0 undef)) w') (λ_ _ _=>False)):
 (⟨dst,.call ⟨.value (.tmp t),args,dc⟩,type,pos,after,guard⟩:Oper).nj P a w K Q:=by
 have hv:=Qz5 (a:=a) (args:=args) (us:=us)
 have r1:(execOp (tw a (jq args.toList) us).eval (⟨some 0,.call ⟨.value (.func f),EK args us.length,dc⟩,type,pos,after,guard⟩:Oper)).run P w=.ok (.enter f (args.toList.map a.eval++us).toArray) w:=by
  simp only[execOp,resolve,Act.eval,Deferred.ofValue,Sem.run_bind,Sem.run_pure,Result.andThen_ok,invoke,bQ,Array.append_empty]
  rw[he,<-hv,<-bR,bS]
 have r2:(execOp a.eval (⟨dst,.call ⟨.value (.tmp t),args,dc⟩,type,pos,after,guard⟩:Oper)).run P w=.ok (.enter f (args.toList.map a.eval++us).toArray) w:=by
  simp only[execOp,resolve,ht,Deferred.ofValue,Sem.run_bind,Sem.run_pure,Result.andThen_ok,invoke,bQ]
  rw[he]
  congr 2
  rw[<-List.append_toArray,<-bR,bS]
 have cf:0<(tw a (jq args.toList) us).tmps.size:=by have:=Wl (l:=args.toList);simp[tw];omega
 unfold Oper.nj at h⊢
 rw[r1]at h
 rw[r2]
 refine Calls.mono h λe w' ⟨v,he,hp⟩=>⟨v,he,?_⟩
 have:((tw a (jq args.toList) us).put (some 0) v).tmps.getD 0 undef=v:=by
  simp only[Act.put]
  simp[aP,cf]
 simp only[this]at hp
 exact hp
theorem xG{P:Program}{dst:Option Tmp}{t:Tmp}{args:Array Operand}{dc:Array TypeId}{type:TypeId}{pos:String}{after:Array Edge}{guard:Option (Nat×Bool)}{a:Act}{w:World}{l:Nat}{rec:Loop}
 (ht:a.eval (.tmp t)=.func (.yield l) #[] #[]) (hl:w.heap[l]?=some (.loop rec)) {K:Act->World->Prop} {Q:Exit->Act->World->Prop} (hs:(args.toList.map a.eval).length=rec.params.size)
 (h:RoundIn Fence.wide 0 P l rec.fn ((rec.params.zip (args.toList.map a.eval).toArray).foldl (λtmps (t,a)=>tmps.setIfInBounds t a) rec.tmps) rec.assign rec.body w λe w'=>∃v,e=.returned v/\K (a.put dst v) w'):
 (⟨dst,.call ⟨.value (.tmp t),args,dc⟩,type,pos,after,guard⟩:Oper).nj P a w K Q:=by
 have r2:(execOp a.eval (⟨dst,.call ⟨.value (.tmp t),args,dc⟩,type,pos,after,guard⟩:Oper)).run P w=.ok (.round l rec.fn ((rec.params.zip (args.toList.map a.eval).toArray).foldl (λtmps (t,a)=>tmps.setIfInBounds t a) rec.tmps) rec.assign rec.body) w:=by
  simp only[execOp,resolve,ht,Deferred.ofValue,Sem.run_bind,Sem.run_pure,Result.andThen_ok,invoke,bQ]
  have hy:=run_yield (P:=P) (args:=(args.toList.map a.eval).toArray) hl (by simpa using hs)
  rw[<-hy,<-bR,bS]
 unfold Oper.nj
 rw[r2]
 exact h
section
variable {P:Program} {G:List bc} {M:Nat} {dst:Option Tmp} {f:FuncId} {t:Tmp} {args:Array Operand} {dc:Array TypeId} {type:TypeId} {pos':String} {after:Array Edge} {guard:Option (Nat×Bool)} {env:List (Nat×D)} {cs:List iu} {R:Rows}
theorem Nf{x:bc}(dw:bj P x)(hf:x.f=f)(hy:f<YB)(ht:look env t=.gn f cs){ks:List Nat}{val:D}{R':Rows}
 (h:BN P ⟨some 0,.call ⟨.value (.func f),EK args cs.length,dc⟩,type,pos',after,guard⟩ (bq (Gg (jq args.toList) cs++env)) R ks val R'):BN P ⟨dst,.call ⟨.value (.tmp t),args,dc⟩,type,pos',after,guard⟩ (bq env) R ks val R':=by
 intro c w a hm hb hR ep K Q hK
 have h1:=ep (.tmp t) (by simp[Op.operands,Call.operands])
 simp only[bq,ht]at h1
 obtain⟨us,⟨_,hv⟩|⟨pJ,_⟩,hc⟩:=h1
 rotate_left
 ·exact absurd hy (Nat.not_lt.2 pJ)
 have hl:us.length=cs.length:=hc.length
 refine qaD (λaz w=>by rw[<-hf];exact dw.enters (by rw[hf];exact hy) az w) hv ?_
 rw[hl]
 refine h c w _ hm hb hR (λy hy=>?_) _ _ λv w' c' hn jY hr=>?_
 ·have gb:∀x∈args.toList,Rep c w (bq env x) (a.eval x):=λy hy=>ep y (by simp[Op.operands,Call.operands];exact .inr (by simpa using hy))
  simp only[Op.operands,Call.operands]at hy
  rcases Array.mem_append.1 hy with hy|hy
  ·simp at hy;subst hy;exact Kr _
  ·exact BM gb hc y (by simpa using hy)
 ·have cf:0<(tw a (jq args.toList) us).tmps.size:=by have:=Wl (l:=args.toList);simp[tw];omega
  have:((tw a (jq args.toList) us).put (some 0) v).tmps.getD 0 undef=v:=by
   simp only[Act.put]
   simp[aP,cf]
  show K (a.put dst (((tw a (jq args.toList) us).put (some 0) v).tmps.getD 0 undef)) w'
  rw[this]
  exact hK v w' c' hn jY hr
theorem Zo5{K:D->Rows->Prop}(hG:jW P G)(lP:o7 G f=none)(ht:look env t=.gn f cs)(h:Kz G f (args.toList.map (bq env)++cs.map iu.d) R K):∃val R',K val R'/\BN P ⟨dst,.call ⟨.value (.tmp t),args,dc⟩,type,pos',after,guard⟩ (bq env) R [] val R':=by
 rw[<-Z92]at h
 obtain⟨val,R',x,h1,h2,h3,_⟩:=Wn (dst:=some 0) (dc:=dc) (type:=type) (pos':=pos') (after:=after) (guard:=guard) hG lP h
 obtain⟨dw,hf⟩:=Gh hG h2
 have wj:x.gone=none:=by simpa[o7,h2]using lP
 exact⟨val,R',h1,Nf dw hf (by rw[<-hf];exact dw.real wj) ht h3.toK⟩
theorem qb{k:Nat}{K:List Nat->D->Rows->Prop}(hG:jW P G)(o8:(bJ f YB||Nat.beq args.size 1)=true)(lP:o7 G f=some k)(ht:look env t=.gn f cs)(h:Im G M f k (args.toList.map (bq env)++cs.map iu.d) R K):∃ks val R',K ks val R'/\(∀j,bw j ks=true->M<=j)/\BN P ⟨dst,.call ⟨.value (.tmp t),args,dc⟩,type,pos',after,guard⟩ (bq env) R ks val R':=by
 rw[<-Z92]at h
 by_cases hy:f<YB
 ·obtain⟨ks,val,R',x,h1,h2,h3,h4,h5⟩:=Zna hG hy (dst:=some 0) (dc:=dc) (type:=type) (pos':=pos') (after:=after) (guard:=guard) lP h
  obtain⟨dw,hf⟩:=Gh hG h2
  exact⟨ks,val,R',h1,h4,Nf dw hf hy ht h5⟩
 ·obtain⟨ks,val,R',x,h1,h2,h3,h4,h5⟩:=Wo hG lP h
  refine⟨ks,val,R',h1,h4,λc w a hm hb hR ep K' Q re=>?_⟩
  have h1:=ep (.tmp t) (by simp[Op.operands,Call.operands])
  simp only[bq,ht]at h1
  obtain⟨us,⟨cf,_⟩|⟨pJ,l,rec,hv,hI,hl,mV⟩,hc⟩:=h1
  ·exact absurd cf hy
  have gb:∀x∈args.toList,Rep c w (bq env x) (a.eval x):=λy hy=>ep y (by simp[Op.operands,Call.operands];exact .inr (by simpa using hy))
  have hlen:us.length=cs.length:=hc.length
  have iW:(args.toList.map a.eval).length=1:=by
   rcases Bool.or_eq_true_iff.1 o8 with e|e
   ·exact absurd (lE e) hy
   ·simpa using bE e
  have fw:(args.toList.map a.eval).length=rec.params.size:=by
   obtain⟨_,_,y,_,hp,_,_,_,h1,_⟩:=mV
   rw[hp,h1];exact iW
  exact xG hv hl fw ((h5 c w (tw a (jq args.toList) us).eval hm hb hR (λy hy=>BM gb hc y hy) (λv w'=>K' (a.put dst v) w') λv w' c'=>re v w' c').2 (Nat.le_of_not_lt hy) l rec (args.toList.map a.eval) us (by rw[<-hlen,Qz5]) hI hl mV iW)
end
def pH(P:Program)(G:List bc)(M:Nat)(o:Oper)(ev:Operand->D)(R:Rows)(ks:List Nat)(val:D)(R':Rows):Prop:=
 if sd G o.op=true then(∀k,bw k ks=true->M<=k)/\BN P o ev R ks val R' else ks=[]/\pK P o ev R val R'
theorem pH.toK{P:Program}{G:List bc}{M:Nat}{o:Oper}{ev:Operand->D}{R:Rows}{ks:List Nat}{val:D}{R':Rows}(h:pH P G M o ev R ks val R'):(∀k,bw k ks=true->M<=k)/\BN P o ev R ks val R':=by
 unfold pH at h
 split at h
 ·exact h
 ·obtain⟨rfl,h⟩:=h
  exact⟨λk hk=>by simp[bw]at hk,h.toW.toK⟩
theorem BO{P:Program}{G:List bc}{M:Nat}{o:Oper}{ev:Operand->D}{R:Rows}{val:D}{R':Rows}(hw:sd G o.op=false)(h:pK P o ev R val R'):pH P G M o ev R [] val R':=by
 unfold pH;rw[hw];exact⟨rfl,h⟩
theorem BP{P:Program}{G:List bc}{M:Nat}{o:Oper}{ev:Operand->D}{R:Rows}{ks:List Nat}{val:D}{R':Rows}(hw:sd G o.op=true)(hk:∀k,bw k ks=true->M<=k)(h:BN P o ev R ks val R'):pH P G M o ev R ks val R':=by
 unfold pH;rw[if_pos hw];exact⟨hk,h⟩
def nz(P:Program)(G:List bc)(M:Nat)(ops:Array Oper)(o:Oper)(env:List (Nat×D))(R:Rows)(ks:List Nat)(val:D)(R':Rows):Prop:=
 match o.guard with
 |none=>pH P G M o (bq env) R ks val R'
 |some (j,want)=>∃g,(ops[j]?).bind (·.dst)=some g/\((∃b,look env g=.bool b/\(if b=want then pH P G M o (bq env) R ks val R' else ks=[]/\val=.dt []/\R'=R))\/(look env g=.dt []/\ks=[]/\val=.dt []/\R'=R))
theorem o9{N:Nat}{st:St}{dst:Option Tmp}{d:D}{R:Rows}{K:St->Prop}(h:st.put N dst d R K):(∀t,dst=some t->t<N)/\K ⟨r9 st.env dst d,R⟩:=by
 cases dst with
 |none=>exact⟨λt h=>(by cases h),h⟩
 |some t=>
  simp only[St.put,da]at h
  refine⟨λs hs=>?_,h.2⟩
  cases hs
  exact lE h.1
theorem zb(d:D):d.kill []=d:=by
 cases d with
 |agg cs=>show D.agg (D.kA [] cs)=_;rw[Wp]
 |gn f cs=>exact Wq (.gn f cs)
 |_=>rfl
theorem Zht:∀{ds:List D},D.pL [] ds=ds
 |[]=>rfl
 |d::l=>by simp[D.pL,zb,Zht (ds:=l)]
theorem yb(d:D):d.gq []=d:=by
 cases d with
 |dt ds=>show D.dt (D.pL [] ds)=_;rw[Zht]
 |agg cs=>exact zb (.agg cs)
 |gn f cs=>exact Wq (.gn f cs)
 |_=>rfl
theorem oZ{env:List (Nat×D)}{t:Nat}:look (Q9 [] env) t=look env t:=by rw[BQ,yb]
theorem Zne{P:Program}{T:fq}(hT:jy P T){G:List bc}(hG:jW P G){N M:Nat}{o:Oper}{st:St}{K:St->Prop}(h:lQ T G N M o st K):
 ∃ks val R' iJ,(∀t,look iJ t=look (Q9 ks st.env) t)/\(∀t,o.dst=some t->t<N)/\K ⟨r9 iJ o.dst val,R'⟩/\pH P G M o (bq st.env) st.rows ks val R':=by
 have plain:(sd G o.op=Gi o.op)->(ie T o.op (bq st.env) st.rows λd R=>st.put N o.dst d R K)->∃ks val R' iJ,(∀t,look iJ t=look (Q9 ks st.env) t)/\(∀t,o.dst=some t->t<N)/\K ⟨r9 iJ o.dst val,R'⟩/\pH P G M o (bq st.env) st.rows ks val R':=by
  intro hw h
  obtain⟨val,R',hK,hO⟩:=Ng hT o _ _ _ h
  obtain⟨h1,h2⟩:=o9 hK
  refine⟨[],_,_,st.env,λt=>oZ.symm,h1,h2,?_⟩
  split at hO
  ·rename_i hs
   exact BP (hw.trans hs) (λk hk=>by simp[bw]at hk) hO.toK
  ·rename_i hs
   exact BO (by rw[hw];simpa using hs) hO
 unfold lQ at h
 split at h
 ·rename_i cc x y ho
  split at h
  ·rename_i b hb
   have hw:sd G o.op=false:=by rw[ho];rfl
   have go:∀z,z∈o.op.operands->(∀c w (a:Act),Rep c w (bq st.env cc) (a.eval cc)->(execOp a.eval o).run P w=.ok (.value (a.eval z)) w)->(bq st.env z).force (λd=>st.put N o.dst d st.rows K)->
    ∃ks val R' iJ,(∀t,look iJ t=look (Q9 ks st.env) t)/\(∀t,o.dst=some t->t<N)/\K ⟨r9 iJ o.dst val,R'⟩/\pH P G M o (bq st.env) st.rows ks val R':=by
    intro z hz ig h
    rw[D.cg]at h
    obtain⟨h1,h2⟩:=o9 h
    exact⟨[],_,_,st.env,λt=>oZ.symm,h1,h2,BO hw (mW λc w a hm hA ep=>⟨_,ig c w a (ep cc (by rw[ho];simp[Op.operands])),ep z hz⟩)⟩
   cases b with
   |true=>
    refine go x (by rw[ho];simp[Op.operands]) (λc w a hc=>?_) h
    rw[hb]at hc
    simp only[execOp,ho,Rep.bool.1 hc,asBool,Sem.run_bind,Sem.run_pure,Result.andThen_ok,if_true]
   |false=>
    refine go y (by rw[ho];simp[Op.operands]) (λc w a hc=>?_) h
    rw[hb]at hc
    simp only[execOp,ho,Rep.bool.1 hc,asBool,Sem.run_bind,Sem.run_pure,Result.andThen_ok,aN,if_false]
  ·exact h.elim
 ·rename_i f args dc ho
  obtain⟨dst,op,type,pos,after,guard⟩:=o
  simp only at ho
  subst ho
  split at h
  ·rename_i lP
   split at h
   rotate_left
   ·rename_i DF
    obtain⟨ks,val,R',x,hK,hx,hM,hO⟩:=yQ (dst:=dst) (type:=type) (pos':=pos) (after:=after) (guard:=guard) (dc:=dc) hG lP h
    rw[Io]at hK
    obtain⟨h1,h2⟩:=o9 hK
    refine⟨ks,_,_,_,λt=>rfl,h1,h2,BP ?_ hM hO⟩
    have DF:x.pb=true:=by simpa[BR,hx]using DF
    cases nA:x.refs with
    |nil=>simp only[sd,hx,nA,DF]
    |cons b bs=>simp only[sd,hx,nA]
   rename_i DF
   have Ip:∀x,oO G f=some x->x.pb=false:=λx hx=>by simpa[BR,hx]using DF
   obtain⟨val,R',x,hK,hx,hO,hN⟩:=Wn (dst:=dst) (type:=type) (pos':=pos) (after:=after) (guard:=guard) (dc:=dc) hG lP h
   obtain⟨h1,h2⟩:=o9 hK
   refine⟨[],_,_,st.env,λt=>oZ.symm,h1,h2,?_⟩
   cases hr:x.refs with
   |nil=>exact BO (by simp only[sd,hx,hr,Ip x hx]) (hN hr)
   |cons b bs=>exact BP (by simp only[sd,hx,hr]) (λk hk=>by simp[bw]at hk) hO.toK
  ·rename_i k lP
   obtain⟨hy,h⟩:=da.1 h
   obtain⟨ks,val,R',x,hK,hx,hr,hM,hO⟩:=Zna hG (lE hy) (dst:=dst) (type:=type) (pos':=pos) (after:=after) (guard:=guard) (dc:=dc) lP h
   rw[Io]at hK
   obtain⟨h1,h2⟩:=o9 hK
   refine⟨ks,_,_,_,λt=>rfl,h1,h2,BP ?_ hM hO⟩
   cases nA:x.refs with
   |nil=>exact(hr nA).elim
   |cons b bs=>simp only[sd,hx,nA]
 ·rename_i t args dc ho
  obtain⟨dst,op,type,pos,after,guard⟩:=o
  simp only at ho
  subst ho
  split at h
  ·rename_i f cs ht
   split at h
   ·rename_i lP
    split at h
    ·obtain⟨val,R',hK,hO⟩:=Zo5 (dst:=dst) (type:=type) (pos':=pos) (after:=after) (guard:=guard) (dc:=dc) hG lP ht h
     obtain⟨h1,h2⟩:=o9 hK
     exact⟨[],_,_,st.env,λt=>oZ.symm,h1,h2,BP rfl (λk hk=>by simp[bw]at hk) hO⟩
    ·exact h.elim
   ·rename_i k lP
    obtain⟨o8,h⟩:=da.1 h
    obtain⟨ks,val,R',hK,hM,hO⟩:=qb (dst:=dst) (type:=type) (pos':=pos) (after:=after) (guard:=guard) (dc:=dc) hG o8 lP ht h
    rw[Io]at hK
    obtain⟨h1,h2⟩:=o9 hK
    exact⟨ks,_,_,_,λt=>rfl,h1,h2,BP rfl hM hO⟩
  ·exact h.elim
 ·rename_i args dc ho
  obtain⟨dst,op,type,pos,after,guard⟩:=o
  simp only at ho
  subst ho
  split at h
  ·rename_i x y t tx hx ht
   have gb:args= #[x,y]:=by rw[<-bS (xs:=args),hx]
   have ud:dc= #[t,tx]:=by rw[<-bS (xs:=dc),ht]
   subst gb;subst ud
   obtain⟨ks,R',hK,hM,hr⟩:=Zmp (ty:=type) hT h
   rw[Io]at hK
   obtain⟨h1,h2⟩:=o9 hK
   refine⟨ks,_,_,_,λt=>rfl,h1,h2,BP rfl hM λc w a hm hb hR ep K' Q re=>?_⟩
   obtain⟨v',w',c',ig,hn,jY,hv⟩:=hr c w _ _ hm hb hR (ep x (by simp[Op.operands,Call.operands])) (ep y (by simp[Op.operands,Call.operands]))
   refine Gj ?_ (re v' w' c' hn jY hv)
   simp only[execOp,resolve,Sem.run_bind,Sem.run_pure,Result.andThen_ok,invoke,builtin]
   have:(#[x,y]:Array Operand).map a.eval= #[a.eval x,a.eval y]:=by simp
   rw[this,ig];rfl
  ·exact h.elim
 ·rename_i args dc ho
  obtain⟨dst,op,type,pos,after,guard⟩:=o
  simp only at ho
  subst ho
  split at h
  ·rename_i x y t tx hx ht
   have gb:args= #[x,y]:=by rw[<-bS (xs:=args),hx]
   have ud:dc= #[t,tx]:=by rw[<-bS (xs:=dc),ht]
   subst gb;subst ud
   obtain⟨val,R',hK,hr⟩:=ya (ty:=type) hT h
   obtain⟨h1,h2⟩:=o9 hK
   refine⟨[],_,_,st.env,λt=>oZ.symm,h1,h2,BP rfl (λk hk=>by simp[bw]at hk) (EM.toK λc w a hm hb hR ep K' Q re=>?_)⟩
   obtain⟨v',w',c',ig,hn,jY,hv⟩:=hr c w _ _ hm hR (ep x (by simp[Op.operands,Call.operands])) (ep y (by simp[Op.operands,Call.operands]))
   refine Gj ?_ (re v' w' c' hn jY hv)
   simp only[execOp,resolve,Sem.run_bind,Sem.run_pure,Result.andThen_ok,invoke,builtin]
   have:(#[x,y]:Array Operand).map a.eval= #[a.eval x,a.eval y]:=by simp
   rw[this,ig];rfl
  ·exact h.elim
 ·rename_i args dc ho
  split at h
  ·rename_i x y hx
   obtain⟨val,hK,hr⟩:=Zmo h
   obtain⟨h1,h2⟩:=o9 hK
   refine⟨[],_,_,st.env,λt=>oZ.symm,h1,h2,BO (by rw[ho];rfl) (mW λc w a hm hA ep=>?_)⟩
   have gb:args= #[x,y]:=by rw[<-bS (xs:=args),hx]
   subst gb
   obtain⟨u,hu,hv⟩:=hr P c w _ _ (ep x (by rw[ho];simp[Op.operands,Call.operands])) (ep y (by rw[ho];simp[Op.operands,Call.operands]))
   refine⟨u,?_,hv⟩
   simp only[execOp,ho,resolve,Sem.run_bind,Sem.run_pure,Result.andThen_ok,invoke,builtin]
   have:(#[x,y]:Array Operand).map a.eval= #[a.eval x,a.eval y]:=by simp
   rw[this]
   have hu:=hu.1 rfl dc o.type
   rw[hu];rfl
  ·exact h.elim
 ·rename_i args dc ho
  split at h
  ·rename_i x y hx
   obtain⟨val,hK,hr⟩:=Zmo h
   obtain⟨h1,h2⟩:=o9 hK
   refine⟨[],_,_,st.env,λt=>oZ.symm,h1,h2,BO (by rw[ho];rfl) (mW λc w a hm hA ep=>?_)⟩
   have gb:args= #[x,y]:=by rw[<-bS (xs:=args),hx]
   subst gb
   obtain⟨u,hu,hv⟩:=hr P c w _ _ (ep x (by rw[ho];simp[Op.operands,Call.operands])) (ep y (by rw[ho];simp[Op.operands,Call.operands]))
   refine⟨u,?_,hv⟩
   simp only[execOp,ho,resolve,Sem.run_bind,Sem.run_pure,Result.andThen_ok,invoke,builtin]
   have:(#[x,y]:Array Operand).map a.eval= #[a.eval x,a.eval y]:=by simp
   rw[this]
   have hu:=hu.2 rfl dc o.type
   rw[hu];rfl
  ·exact h.elim
 ·rename_i s d x ho
  split at h
  ·rename_i e _ _ _ _ _ _ hs
   obtain⟨val,hK,hr⟩:=qG hT hs h
   obtain⟨h1,h2⟩:=o9 hK
   refine⟨[],_,_,st.env,λt=>oZ.symm,h1,h2,BO (by rw[ho];rfl) (mW λc w a hm hA ep=>?_)⟩
   obtain⟨u,hu,hv⟩:=hr c w _ hm hA (ep x (by rw[ho];simp[Op.operands]))
   refine⟨u,?_,hv⟩
   simp only[execOp,ho]
   rw[Sem.run_bind,hu];rfl
  ·rw[<-ho]at h
   exact plain (by rw[ho];rfl) h
 ·rename_i op t x y ty ho
  split at h
  ·rename_i s es fr hx hy
   obtain⟨hK,hr⟩:=vF hT h
   obtain⟨h1,h2⟩:=o9 hK
   refine⟨[],_,_,st.env,λt=>oZ.symm,h1,h2,BO (by rw[ho];rfl) (mW λc w a hm hA ep=>?_)⟩
   have q1:=ep x (by rw[ho];simp[Op.operands])
   have q2:=ep y (by rw[ho];simp[Op.operands])
   rw[hx]at q1;rw[hy]at q2
   obtain⟨u,hu,hv⟩:=hr s fr c w _ _ q1 q2
   refine⟨u,?_,hv⟩
   simp only[execOp,ho]
   rw[Sem.run_bind,hu x y];rfl
  ·rw[<-ho]at h
   exact plain (by rw[ho];rfl) h
 ·rename_i op n1 n2 n9 n3 n4 n5 n6 n7 n8
  refine plain ?_ h
  unfold sd
  split
  ·rename_i rM;rw[rM];rfl
  ·rename_i rM;exact(n2 _ _ _ rM).elim
  ·rename_i rM;exact(n9 _ _ _ rM).elim
  ·rename_i rM;exact(n3 _ _ rM).elim
  ·rename_i rM;exact(n4 _ _ rM).elim
  ·rename_i m1 m2 m5 m3 m4
   cases rM:o.op<;>first|rfl|exact(m1 _ _ _ rM).elim
theorem SE{st:St}{g:Nat}{b:Bool}(h:look st.env g=.bool b)(t:Nat):look (st.kG (.tmp g) b).env t=look st.env t:=by
 simp only[St.kG,Bg]
 split
 ·rename_i e;subst e;exact h.symm
 ·rfl
theorem Zoo{env mg:List (Nat×D)}(h:∀t,look mg t=look env t):bq mg=bq env:=by
 funext x;cases x<;>first|exact h _|rfl
theorem V1{P:Program}{T:fq}(hT:jy P T){G:List bc}(hG:jW P G){N M:Nat}{ops:Array Oper}{o:Oper}{l:List Oper}{st:St}{K:St->Prop}(h:Qc T G N M ops (o::l) st K):
 ∃ks val R' iJ,(∀t,look iJ t=look (Q9 ks st.env) t)/\(∀t,o.dst=some t->t<N)/\nz P G M ops o st.env st.rows ks val R'/\Qc T G N M ops l ⟨r9 iJ o.dst val,R'⟩ K:=by
 simp only[Qc]at h
 split at h
 ·rename_i hg
  obtain⟨ks,val,R',iJ,h0,h1,h2,h3⟩:=Zne hT hG h
  exact⟨ks,val,R',iJ,h0,h1,by unfold nz;rw[hg];exact h3,h2⟩
 ·rename_i j want hg
  split at h
  ·rename_i g hd
   split at h
   ·rename_i b hb
    have yes:∀b',b'=b->lQ T G N M o (st.kG (.tmp g) b') (λst=>Qc T G N M ops l st K)->b=want->∃ks val R' iJ,(∀t,look iJ t=look (Q9 ks st.env) t)/\(∀t,o.dst=some t->t<N)/\nz P G M ops o st.env st.rows ks val R'/\Qc T G N M ops l ⟨r9 iJ o.dst val,R'⟩ K:=by
     intro b' e hh hw
     subst e
     obtain⟨ks,val,R',iJ,h0,h1,h2,h3⟩:=Zne hT hG hh
     rw[Zoo (SE hb)]at h3
     refine⟨ks,val,R',iJ,λt=>by rw[h0,BQ,BQ,SE hb],h1,?_,h2⟩
     unfold nz;rw[hg]
     exact⟨g,hd,.inl ⟨_,hb,by rw[if_pos hw];exact h3⟩⟩
    have no:∀b',b'=b->(st.kG (.tmp g) b').put N o.dst (.dt []) st.rows (λst=>Qc T G N M ops l st K)->b≠want->∃ks val R' iJ,(∀t,look iJ t=look (Q9 ks st.env) t)/\(∀t,o.dst=some t->t<N)/\nz P G M ops o st.env st.rows ks val R'/\Qc T G N M ops l ⟨r9 iJ o.dst val,R'⟩ K:=by
     intro b' e hh hw
     subst e
     obtain⟨h1,h2⟩:=o9 hh
     refine⟨[],_,_,_,λt=>by rw[oZ,SE hb],h1,?_,h2⟩
     unfold nz;rw[hg]
     exact⟨g,hd,.inl ⟨_,hb,by rw[if_neg hw];exact⟨rfl,rfl,rfl⟩⟩⟩
    cases b<;>cases want<;>simp only[DG]at h
    ·exact yes _ rfl h rfl
    ·exact no _ rfl h (by simp)
    ·exact no _ rfl h (by simp)
    ·exact yes _ rfl h rfl
   ·rename_i hb
    obtain⟨h1,h2⟩:=o9 h
    refine⟨[],_,_,st.env,λt=>oZ.symm,h1,?_,h2⟩
    unfold nz;rw[hg]
    exact⟨g,hd,.inr ⟨hb,rfl,rfl,rfl⟩⟩
   ·exact h.elim
  ·exact h.elim
theorem Su{ops:Array Oper}{o:Oper}{c:Ctx}{w:World}{a:Act}{j g:Nat}{want:Bool}(hg:o.guard=some (j,want))(hd:(ops[j]?).bind (·.dst)=some g)(h:Rep c w (.dt []) (a.tmps.getD g undef)):
 Region.wanted o (yielded ops a.tmps)=false:=by
 obtain⟨vs,hv,BS⟩:=h
 have hy:yielded ops a.tmps j=none:=by
  simp only[yielded,hd,aL]
  cases hx:a.tmps[g]? with
  |none=>rfl
  |some v=>
   have:a.tmps.getD g undef=v:=by simp[hx]
   rw[this]at hv
   rw[hv]
 unfold Region.wanted
 rw[hg]
 simp only[hy]
 rfl
theorem Ss(c:Ctx)(w:World):Rep c w (.dt []) undef:=⟨[],rfl,trivial⟩
theorem Sv{ops:Array Oper}{o:Oper}{c:Ctx}{w:World}{a:Act}{j g:Nat}{want b:Bool}(hg:o.guard=some (j,want))(hd:(ops[j]?).bind (·.dst)=some g)(h:Rep c w (.bool b) (a.tmps.getD g undef)):
 Region.wanted o (yielded ops a.tmps)=decide (b=want):=by
 have hv:=Rep.bool.1 h
 have ht:a.tmps[g]?=some (.bool b):=by
  cases hx:a.tmps[g]? with
  |none=>simp[hx,undef]at hv
  |some v=>simp[hx]at hv;rw[hv]
 unfold Region.wanted
 simp only[hg,yielded,hd,aL,ht]
 cases b<;>cases want<;>rfl
def wpOp(P:Program)(ops:Array Oper)(Q:Exit->Act->World->Prop)(i:Nat)(K:Act->World->Prop)(a:Act)(w:World):Prop:=
 match ops[i]? with
 |none=>K a w
 |some o=>if Region.wanted o (yielded ops a.tmps)then o.nj P a w K Q else K (a.put o.dst undef) w
def KA(P:Program)(ops:Array Oper)(Q:Exit->Act->World->Prop):List Nat->Act->World->Prop
 |[],a,w=>Q .normal a w
 |i::rest,a,w=>wpOp P ops Q i (KA P ops Q rest) a w
theorem Z8q{P:Program}{ops:Array Oper}{Q:Exit->Act->World->Prop}(i:Nat)(rest:List Nat)(a:Act)(w:World):KA P ops Q (i::rest) a w=wpOp P ops Q i (KA P ops Q rest) a w:=rfl
def Ih(P:Program)(md:Region.Mode)(ops:Array Oper)(Q:Exit->Act->World->Prop):Nat->Array Bool->Act->World->Prop
 |0,listed,a,w=>Region.ready md ops listed=[]/\Q .normal a w
 |fuel+1,listed,a,w=>
  (Region.ready md ops listed=[]->Q .normal a w)/\
  ∀i∈Region.ready md ops listed,wpOp P ops Q i (Ih P md ops Q fuel (listed.setIfInBounds i true)) a w
abbrev Bj(ro:Option Nat):Fence:={Fence.wide with round:=ro}
theorem yV{P:Program}{ro:Option Nat}{o:Oper}{a:Act}{w:World}{K:Act->World->Prop}{Q Q':Exit->Act->World->Prop}(h:o.nj P a w K Q):o.wpIn (Bj ro) 0 P a w K Q':=by
 refine⟨λ_ _=>trivial,?_⟩
 have hd:∀c,o.op≠.defer c:=by
  intro c hc
  unfold Oper.nj at h
  simp only[execOp,hc,Sem.run_bind]at h
  revert h
  cases(resolve a.eval c o.type).run P w with
  |halt _ _=>exactλh=>h
  |ok d w'=>exactλh=>h
 rw[Oper.semAt_eq _ _ _ hd]
 unfold Oper.nj at h
 revert h
 generalize(execOp a.eval o).run P w=r
 intro h
 cases r with
 |halt _ _=>exact h.elim
 |ok n w'=>
  cases n with
  |value v=>exact h
  |skip=>exact h
  |enter f args=>
   refine⟨λe=>(by cases e),?_⟩
   refine CallsIn.mono (F:=Fence.wide) (callsIn_wide.2 h) λe w' ⟨v,he,hk⟩=>?_
   subst he;exact hk
  |round l f tmps assign body=>
   refine⟨λe=>(by cases e),?_⟩
   refine RoundIn.mono (F:=Fence.wide) h λe w' ⟨v,he,hk⟩=>?_
   subst he;exact hk
  |_=>exact h.elim
theorem SF{P:Program}{ro:Option Nat}{ops:Array Oper}{Q:Exit->Act->World->Prop}:∀{l:List Nat} {a:Act} {w:World},KA P ops Q l a w->wpOpsIn (Bj ro) 0 P ops Q l a w
 |[],_,_,h=>h
 |i ::l,a,w,h=>by
  rw[Z8q]at h
  unfold wpOp at h
  unfold wpOpsIn
  split
  ·rename_i ho;simp only[ho]at h;exact SF h
  ·rename_i o ho
   simp only[ho]at h
   split
   ·rename_i hw;rw[if_pos hw]at h;exact yV (Q:=Q) (Wr (Q':=Q) (λa w h=>SF h) h)
   ·rename_i hw;rw[if_neg hw]at h;exact⟨λ_ _=>trivial,SF h⟩
theorem SG{P:Program}{ro:Option Nat}{md:Region.Mode}{ops:Array Oper}{Q:Exit->Act->World->Prop}:∀{n:Nat} {listed:Array Bool} {a:Act} {w:World},Ih P md ops Q n listed a w->wpAnyIn (Bj ro) 0 P md ops Q n listed a w
 |0,_,_,_,h=>h
 |n +1,listed,a,w,h=>by
  refine⟨h.1,λi hi=>?_⟩
  have h:=h.2 i hi
  unfold wpOp at h
  unfold wpOpIn
  split
  ·rename_i ho;simp only[ho]at h;exact SG h
  ·rename_i o ho
   simp only[ho]at h
   split
   ·rename_i hw;rw[if_pos hw]at h;exact yV (Q:=Q) (Wr (Q':=Q) (λa w h=>SG h) h)
   ·rename_i hw;rw[if_neg hw]at h;exact⟨λ_ _=>trivial,SG h⟩
theorem Zh1{P:Program}{ro:Option Nat}{id:Nat}{ops:Array Oper}{Q:Exit->Act->World->Prop}{a:Act}{w:World}(h:KA P ops Q (List.range ops.size) a w):(Code.region id ops false).wpIn (Bj ro) 0 P Q a w:=wpIn_region (SF h)
theorem Qvp{P:Program}{ro:Option Nat}{ops:Array Oper}{Q:Exit->Act->World->Prop}{id:Nat}{a:Act}{w:World}(hm:P.follows .mixedOrders=true)
 (h:Ih P .any ops Q ops.size (Array.replicate ops.size false) a {w with drawn:=w.drawn+1}):(Code.region id ops true).wpIn (Bj ro) 0 P Q a w:=wpIn_region_any hm (SG h)
theorem vV{P:Program}{G:List bc}{ops:Array Oper}{N M:Nat}{c0:Ctx}{w0:World}{c:Ctx}{w:World}{st:St}{a:Act}{i:Nat}{o:Oper}{ks:List Nat}{val:D}{R':Rows}{iJ:List (Nat×D)}(hi:ops[i]?=some o)
 (hs:fv N M c0 w0 c w st a) (h1:∀t,look iJ t=look (Q9 ks st.env) t) (hd:∀t,o.dst=some t->t<N) (hG:nz P G M ops o st.env st.rows ks val R') {K:Act->World->Prop} {Q:Exit->Act->World->Prop}
 (hK:∀a' w' c',fv N M c0 w0 c' w' ⟨r9 iJ o.dst val,R'⟩ a'->K a' w'):wpOp P ops Q i K a w:=by
 have fin:(∀k,bw k ks=true->M<=k)->∀(v:Value) (w':World) (c':Ctx),jE ks c w c' w'->(∀r,c'.R r=R'.getD r none)->Rep c' w' val v->K (a.put o.dst v) w':=λhM v w' c' hn hR hv=>by
  refine hK _ _ c' ⟨hn.mem,hR,?_,?_,?_,hs.gh,hs.gw,hs.reach.step hM hs.gw hn⟩
  ·exact Z8a hs.size hd (λt=>by rw[h1,BQ];exact Ae hn.bz (Ws (hs.env t))) hv
  ·cases ho:o.dst<;>simp[Act.put]<;>exact hs.size
  ·exact lX.put (hs.defers.step hs.mem hn.fr)
 have run:pH P G M o (bq st.env) st.rows ks val R'->o.nj P a w K Q:=λhX=>hX.toK.2 c w a hs.mem hs.base hs.rows (λx _=>Nc hs.env x) K Q (fin hX.toK.1)
 have skip:ks=[]->val=.dt []->R'=st.rows->K (a.put o.dst undef) w:=λe0 e1 e2=>by
  refine hK _ _ c ⟨hs.mem,by rw[e2];exact hs.rows,?_,?_,?_,hs.gh,hs.gw,hs.reach⟩
  ·exact Z8a hs.size hd (λt=>by rw[h1,e0,oZ];exact hs.env t) (by rw[e1];exact Ss _ _)
  ·cases ho:o.dst<;>simp[Act.put]<;>exact hs.size
  ·exact lX.put hs.defers
 unfold wpOp
 simp only[hi]
 unfold nz at hG
 cases hg:o.guard with
 |none=>
  simp only[hg]at hG
  have hw:Region.wanted o (yielded ops a.tmps)=true:=by simp[Region.wanted,hg]
  rw[if_pos hw]
  exact run hG
 |some jw=>
  obtain⟨j,want⟩:=jw
  simp only[hg]at hG
  obtain⟨g,h2,⟨b,h3,h4⟩|⟨h3,e0,e1,e2⟩⟩:=hG
  rotate_left
  ·have hr:=hs.env g
   rw[h3]at hr
   rw[if_neg (by rw[Su (o:=o) hg h2 hr];simp)]
   exact skip e0 e1 e2
  have hr:=hs.env g
  rw[h3]at hr
  have hw:=Sv (o:=o) hg h2 hr
  by_cases e:b=want
  ·rw[if_pos e]at h4
   rw[if_pos (by rw[hw];simpa using e)]
   exact run h4
  ·rw[if_neg e]at h4
   rw[if_neg (by rw[hw];simpa using e)]
   exact skip h4.1 h4.2.1 h4.2.2
theorem qW{P:Program}{T:fq}(hT:jy P T){G:List bc}(hG:jW P G){N M:Nat}{ops:Array Oper}{c0:Ctx}{w0:World}{K:St->Prop}{Q:Exit->Act->World->Prop}(hQ:∀st c w a,K st->fv N M c0 w0 c w st a->Q .normal a w):
 ∀(l:List Oper) (k:Nat) (st:St) (c:Ctx) (w:World) (a:Act),ops.toList.drop k=l->Qc T G N M ops l st K->fv N M c0 w0 c w st a->KA P ops Q (bK k l.length) a w
 |[],k,st,c,w,a,_,h,hs=>hQ st c w a h hs
 |o ::l,k,st,c,w,a,hk,h,hs=>by
  have cf:k<ops.toList.length:=by
   by_cases cf:k<ops.toList.length
   ·exact cf
   ·rw[List.drop_eq_nil_of_le (by omega)]at hk;cases hk
  rw[List.drop_eq_getElem_cons cf]at hk
  have ho:ops[k]?=some o:=by
   have:=(List.cons.inj hk).1
   rw[<-this]
   simp at cf
   simp[cf]
  obtain⟨ks,val,R',iJ,h1,h2,h3,h4⟩:=V1 hT hG h
  simp only[List.length_cons,List.range'_succ]
  rw[Z8q]
  exact vV ho hs h1 h2 h3 λa' w' c' ji=>qW hT hG hQ l (k+1) _ c' w' a' (List.cons.inj hk).2 h4 ji
def mQ:Exit->Option Ex
 |.normal=>some .normal
 |.exit i=>some (.exit i)
 |.ret=>some .ret
 |_=>none
def tP(ro:Option Nat)(P:Program)(N M:Nat)(code:Code)(st:St)(Q:Ex->St->Prop):Prop:=
 ∀ (c0:Ctx) (w0:World) (c:Ctx) (w:World) (a:Act),fv N M c0 w0 c w st a->
  code.wpIn (Bj ro) 0 P (λe a' w'=>∃ex jt c',mQ e=some ex/\Q ex jt/\fv N M c0 w0 c' w' jt a') a w
abbrev Tr:=tP none
def Ctx.pb(c:Ctx)(R:Rows)(ks:List Nat):Ctx:=
 {c with R:=λr=>if bw r ks=true then none else(c.R r).map (Row.mh R ks),I:=λb=>c.I b\/∃r row,bw r ks=true/\c.R r=some row/\¬c.V r/\c.ρ r=b}
section
variable {c:Ctx} {w:World} {R:Rows} {ks:List Nat}
theorem Zhr(R:Rows)(ks:List Nat)(row:Row):(row.mh R ks).box=row.box/\(row.mh R ks).ty=row.ty/\(row.mh R ks).sz=row.sz/\(row.mh R ks).es.l.length=row.es.l.length:=by
 unfold Row.mh;split<;>exact⟨rfl,rfl,rfl,rfl⟩
theorem Z47:∀{e:List D},(D.sw R ks e).length=e.length
 |[]=>rfl
 |d::l=>by simp[D.sw,Z47 (e:=l)]
theorem Zgi:jk (c.kill ks) w (c.pb R ks) w:=by
 refine⟨rfl,aO _,λb h=>⟨.inl h,rfl⟩,λr x hx=>?_⟩
 obtain⟨h1,row,h2,rfl⟩:=oh hx
 obtain⟨s1,s2,s3,s4⟩:=Zhr R ks row
 obtain⟨k1,k2,k3,k4⟩:=wh ks row
 refine⟨row.mh R ks,?_,s1.trans k1.symm,s2.trans k2.symm,s3.trans k3.symm,s4.trans k4.symm,rfl,Iff.rfl,λ_ arr h=>⟨arr,h,rfl⟩⟩
 show(if bw r ks=true then none else(c.R r).map (Row.mh R ks))=_
 rw[h1,h2];rfl
theorem Qyo:∀{ds:List D} {arr:Array Value} {off:Nat},ds.all D.plain=true->kJ c w ds arr off->nP c.I w ds arr off
 |[],_,_,_,_=>BK.2 trivial
 |d::ds,arr,off,hp,⟨⟨v,hv,h1⟩,h2⟩=>by
  rw[List.all_cons,aE]at hp
  exact Ak.2 ⟨⟨v,hv,cu.plain hp.1 h1⟩,Qyo hp.2 h2⟩
variable (hm:Mem c w) (hA:∀r,c.R r=R.getD r none)
include hm hA
theorem Wt{d:D}{v:Value}(h:cu c w d v):cu (c.pb R ks) w (d.BT R ks) v:=by
 have Iq:∀{d:D},cu c w d v->cu (c.pb R ks) w (d.ei ks) v:=λh=>Nh Zgi (SH h)
 cases d with
 |all r=>
  simp only[D.BT]
  cases hb:bw r ks with
  |false=>
   have:=Iq h
   simpa only[D.ei,hb]using this
  |true=>
   obtain⟨row,g1,g2,hv⟩:=h
   have hr:R.getD r none=some row:=by rw[<-hA r];exact g1
   obtain⟨box,ty,sz,es⟩:=row
   simp only at g2
   subst g2
   simp only[hr]
   rcases hv with⟨hV,a,hv,_⟩|⟨hV,cap,arr,hv,g3,g4,g5,g6⟩
   ·have he:=(hm.oe g1 hV).2.1
    simp only at he
    exact⟨a,0,by rw[he];exact hv,by rw[he];exact aO _,.inl he⟩
   ·obtain⟨iM,jB,hs,hx⟩:=hm.real g1 hV
    simp only at g5 jB hx
    rw[g5]at jB;cases jB
    simp only[aN,if_false]at hx
    exact⟨_,cap,hv,g3,.inr ⟨_,0,arr,_,_,rfl,.inr ⟨r,_,hb,g1,hV,rfl⟩,by simp,g5,od (λb hb=>⟨.inl hb,rfl⟩) _ _ _ _ hx⟩⟩
 |ptr r i off=>
  simp only[D.BT]
  cases hb:bw r ks with
  |false=>
   have:=Iq h
   simpa only[D.ei,hb]using this
  |true=>
   obtain⟨row,g1,g2,g3,hv⟩:=h
   have hr:R.getD r none=some row:=by rw[<-hA r];exact g1
   simp only
   split
   ·rename_i ty sz e he
    rw[he]at hr;cases hr
    split
    ·rename_i hp
     obtain⟨arr,ha,hs,hx⟩:=hm.real g1 g2
     simp only[if_true]at hx
     obtain⟨e',k1,k2,k3,k4⟩:=hx
     have k1:[e]=[e']:=by injection k1
     have k1:e=e':=(List.cons.inj k1).1
     subst k1
     refine⟨c.ρ r,0,arr,ty,(0,0),?_,.inr ⟨r,_,hb,g1,g2,rfl⟩,g3,ha,oi.2 ⟨k2,Zkd (λb hb=>⟨.inl hb,rfl⟩) _ _ _ (Qyo hp k4),pM.2 trivial⟩⟩
     rw[hv];simp
    ·rw[hv];rfl
   ·rw[hv];rfl
 |_=>exact Iq h
theorem Znw:∀{ds:List D} {vs:List Value},jm c w ds vs->jm (c.pb R ks) w (D.sw R ks ds) vs
 |[],[],_=>trivial
 |_::_,_::_,h=>⟨Wt hm hA h.1,Znw h.2⟩
 |[],_::_,h=>h.elim
 |_::_,[],h=>h.elim
theorem Znd{d:D}{v:Value}(h:VRep c w d v):VRep (c.pb R ks) w (d.Ir R ks) v:=by
 cases d with
 |agg cs=>obtain⟨vs,hv,hr⟩:=h;exact⟨vs,hv,Znw hm hA hr⟩
 |_=>
  have:=Wt (ks:=ks) hm hA (VRep.toC (λcs e=>by cases e) h)
  exact VRep.EL this
theorem Zlu:∀{ds:List D} {vs:List Value},kb c w ds vs->kb (c.pb R ks) w (D.Is R ks ds) vs
 |[],[],_=>trivial
 |_::_,_::_,h=>⟨Znd hm hA h.1,Zlu h.2⟩
 |[],_::_,h=>h.elim
 |_::_,[],h=>h.elim
theorem zG{d:D}{v:Value}(h:Rep c w d v):Rep (c.pb R ks) w (d.BU R ks) v:=by
 cases d with
 |dt ds=>obtain⟨vs,hv,hr⟩:=h;exact⟨vs,hv,Zlu hm hA hr⟩
 |dead=>trivial
 |_=>
  have:=Znd (ks:=ks) hm hA (Rep.toV (λds e=>by cases e) (λe=>by cases e) h)
  exact Rep.Ky this
theorem Ze9:∀{ds:List D} {arr:Array Value} {off:Nat},kJ c w ds arr off->kJ (c.pb R ks) w (D.sw R ks ds) arr off
 |[],_,_,_=>trivial
 |_::_,_,_,⟨⟨v,hv,h1⟩,h2⟩=>⟨⟨v,hv,Wt hm hA h1⟩,Ze9 h2⟩
theorem qad{r:Nat}{row:Row}(h:EN c w r row):EN (c.pb R ks) w r (row.mh R ks):=by
 obtain⟨s1,s2,s3,s4⟩:=Zhr R ks row
 rcases h with⟨h0,h1,h2,h3⟩|⟨h0,arr,ha,hs,hx⟩
 ·refine .inl ⟨h0,s1.trans h1,?_,by rw[s3];exact h3⟩
  rw[h2]at s4;exact List.eq_nil_of_length_eq_zero s4
 ·refine .inr ⟨h0,arr,by rw[s2];exact ha,by rw[s3];exact hs,?_⟩
  rw[s1,s3]
  split
  ·rename_i hb
   simp only[hb,if_true]at hx
   obtain⟨e,k1,k2,k3,k4⟩:=hx
   obtain⟨box,ty,sz,es⟩:=row
   simp only at hb k1 k2 k3 k4
   subst hb;subst k1
   exact⟨D.sw R ks e,rfl,by rw[Z47];exact k2,k3,Ze9 hm hA k4⟩
  ·rename_i hb
   simp only[hb,aN,if_false]at hx
   have he:(row.mh R ks).es=row.es:=by
    unfold Row.mh
    split
    ·simp at hb
    ·rfl
   rw[he];exact od (λb hb=>⟨.inl hb,rfl⟩) _ _ _ _ hx
omit hm hA in
theorem KB{r:Nat}{x:Row}(h:(c.pb R ks).R r=some x):bw r ks=false/\∃row,c.R r=some row/\x=row.mh R ks:=by
 simp only[Ctx.pb]at h
 cases hb:bw r ks with
 |true=>rw[hb]at h;simp at h
 |false=>
  rw[hb]at h
  simp only[aN,if_false,Option.map_eq_some_iff]at h
  obtain⟨row,h1,h2⟩:=h
  exact⟨rfl,row,h1,h2.symm⟩
theorem zad:Mem (c.pb R ks) w:=by
 refine⟨λr x hx=>?_,λr s x y hx hy v1 v2 he=>?_,λb hb=>?_,hm.top,hm.kM.mono λb hb=>⟨.inl hb,rfl⟩⟩
 ·obtain⟨_,row,h1,rfl⟩:=KB hx
  exact qad hm hA (hm.row r row h1)
 ·obtain⟨_,row,h1,_⟩:=KB hx
  obtain⟨_,ak,h2,_⟩:=KB hy
  exact hm.inj r s row ak h1 h2 v1 v2 he
 ·rcases hb with hb|⟨s,row,h1,h2,h3,rfl⟩
  ·refine⟨(hm.fu b hb).1,λr x hx v=>?_⟩
   obtain⟨_,row,h1,_⟩:=KB hx
   exact(hm.fu b hb).2 r row h1 v
  ·refine⟨hm.lt h2 h3,λr x hx v e=>?_⟩
   obtain⟨h4,ak,h5,_⟩:=KB hx
   have:=hm.inj r s ak row h5 h2 v h3 e
   rw[this,h1]at h4;cases h4
end
theorem Za6{R0:Rows}{ks:List Nat}:∀{R:Rows} {i r:Nat},(KC R0 ks R i).getD r none=if bw (i+r) ks=true then none else(R.getD r none).map (Row.mh R0 ks)
 |[],i,r=>by simp[KC]
 |x::l,i,0=>by
  simp only[KC,bG]
  cases bw i ks<;>cases x<;>simp
 |x::l,i,r+1=>by
  have:=Za6 (R0:=R0) (ks:=ks) (R:=l) (i:=i+1) (r:=r)
  rw[show i+1+r=i+(r+1) by omega]at this
  simpa[KC]using this
def ue(R:Rows)(ks:List Nat)(env:List (Nat×D)):List (Nat×D):=env.map λx=>(x.1,x.2.BU R ks)
theorem Zlx{R:Rows}{ks:List Nat}:∀{env:List (Nat×D)} {K:List (Nat×D)->Prop},EO R ks env K↔K (ue R ks env)
 |[],_=>Iff.rfl
 |(t,d)::l,K=>by
  simp only[EO,D.cg]
  rw[Zlx (env:=l) (K:=λl=>K ((t,d.BU R ks)::l))]
  rfl
theorem Zn{R:Rows}{ks:List Nat}:∀{env:List (Nat×D)} {t:Nat},look (ue R ks env) t=(look env t).BU R ks
 |[],_=>rfl
 |(u,d)::l,t=>by
  simp only[ue,List.map_cons,look]
  split
  ·rfl
  ·exact Zn (env:=l)
theorem Wu{M:Nat}{R:Rows}:∀{l:List Nat} {r:Nat},r∈uf M R l->M<=r
 |x ::l,r,h=>by
  simp only[uf]at h
  split at h
  ·rename_i hb
   rcases List.mem_cons.1 h with e|h
   ·rw[e];rw[aE]at hb;exact lE hb.1
   ·exact Wu h
  ·exact Wu h
theorem xad{N M:Nat}{c0:Ctx}{w0:World}{c:Ctx}{w:World}{st:St}{a:Act}{T:fq}{G:List bc}{ops:Array Oper}{K:St->Prop}(h:It T G M ops st K)(hs:fv N M c0 w0 c w st a):∃jt c',K jt/\fv N M c0 w0 c' w jt a:=by
 unfold It at h
 split at h
 ·exact⟨st,c,h,hs⟩
 ·rename_i ks hk
  have hM:∀k,bw k (uf M st.rows (SI T G st.env st.rows [] [] ops.toList))=true->M<=k:=λk hk=>Wu (oj.1 hk)
  generalize uf M st.rows (SI T G st.env st.rows [] [] ops.toList)=ks at*
  rw[Zlx,nk]at h
  have hm:=zad (ks:=ks) hs.mem hs.rows
  refine⟨_,c.pb st.rows ks,h,hm,λr=>?_,λt=>?_,hs.size,hs.defers,hs.gh,hs.gw,hs.reach.step (ks:=ks) hM hs.gw ⟨hm,Zgi,Fr.refl _ w,λb hb=>?_,λr ak hr hv=>?_⟩⟩
  ·rw[Za6,aX,<-hs.rows r];rfl
  ·rw[Zn];exact zG hs.mem hs.rows (hs.env t)
  ·rcases hb with hb|hb
   ·exact .inl hb
   ·exact .inr (.inl hb)
  ·obtain⟨_,row,h1,_⟩:=KB hr
   exact .inl ⟨⟨row,h1⟩,hv,rfl⟩
theorem vb{c:Ctx}{w:World}(hm:Mem c w){r:Nat}{ty:TypeId}{sz:Nat}{e e':List D}(hr:c.R r=some ⟨true,ty,sz,.gen [e]⟩)(hl:e'.length=e.length)(hc:∀arr,kJ c w e arr 0->kJ c w e' arr 0):jk c w (c.jA r ⟨true,ty,sz,.gen [e']⟩) w/\Mem (c.jA r ⟨true,ty,sz,.gen [e']⟩) w:=by
 have hg:jk c w (c.jA r ⟨true,ty,sz,.gen [e']⟩) w:=by
  refine⟨rfl,aO _,λb hb=>⟨hb,rfl⟩,λs x hs=>?_⟩
  by_cases e:s=r
  ·subst e
   rw[hr]at hs;cases hs
   exact⟨⟨true,ty,sz,.gen [e']⟩,by simp[Ctx.jA],rfl,rfl,rfl,rfl,rfl,Iff.rfl,λ_ a ha=>⟨a,ha,rfl⟩⟩
  ·exact⟨x,by simp[Ctx.jA,e,hs],rfl,rfl,rfl,rfl,rfl,Iff.rfl,λ_ a ha=>⟨a,ha,rfl⟩⟩
 have jz:∀s x,(c.jA r ⟨true,ty,sz,.gen [e']⟩).R s=some x->∃x',c.R s=some x':=λs x hs=>by
  by_cases e:s=r
  ·exact⟨_,by rw[e];exact hr⟩
  ·exact⟨x,by simpa[Ctx.jA,e]using hs⟩
 refine⟨hg,λs x hs=>?_,λs q x y hs hq v1 v2 he=>?_,λb iz=>⟨(hm.fu b iz).1,λs x hs hv=>?_⟩,hm.top,hm.kM⟩
 ·by_cases es:s=r
  ·subst es
   simp only[Ctx.jA,if_true,Option.some.injEq]at hs
   subst hs
   rcases hm.row _ _ hr with⟨g0,g1,g2,g3⟩|⟨g0,arr,g1,g2,g3⟩
   ·cases g1
   ·refine .inr ⟨g0,arr,g1,g2,?_⟩
    simp only[if_true]at g3⊢
    obtain⟨e0,q1,q2,q3,q4⟩:=g3
    cases q1
    exact⟨e',rfl,hl.trans q2,q3,Ni hg (hc arr q4)⟩
  ·have ji:c.R s=some x:=by simpa[Ctx.jA,es]using hs
   exact tS hg rfl Iff.rfl (λ_=>rfl) (hm.row s x ji)
 ·obtain⟨x',jD⟩:=jz s x hs
  obtain⟨y',Ai⟩:=jz q y hq
  exact hm.inj s q x' y' jD Ai v1 v2 he
 ·obtain⟨x',jD⟩:=jz s x hs
  exact(hm.fu b iz).2 s x' jD hv
theorem qc{T:fq}{R:Rows}{i:Nat}{ty:TypeId}{sz:Nat}{e:TypeId}{n:Nat}(h:ug T R i=some (ty,sz,e,n)):0<n/\∃d,R.getD i none=some ⟨true,ty,sz,.gen [[d]]⟩/\(d=.du\/d=.emp):=by
 unfold ug at h
 split at h
 ·rename_i jX kB d hr
  have go:∀{x:Option (TypeId×Nat×TypeId×Nat)},x=some (ty,sz,e,n)->(x=match T.get jX with|some ⟨.slice e n,_,_,_,_,_⟩=>(match bJ 0 n with|true=>some (jX,kB,e,n)|false=>none)|_=>none)->0<n/\jX=ty/\kB=sz:=by
   intro x hx hy
   rw[hx]at hy
   split at hy
   ·split at hy
    ·rename_i hb;cases hy;exact⟨lE hb,rfl,rfl⟩
    ·cases hy
   ·cases hy
  split at h
  ·obtain⟨h1,rfl,rfl⟩:=go h rfl
   exact⟨h1,_,hr,.inl rfl⟩
  ·obtain⟨h1,rfl,rfl⟩:=go h rfl
   exact⟨h1,_,hr,.inr rfl⟩
  ·cases h
 ·cases h
theorem Gk{N M:Nat}{c0:Ctx}{w0:World}{w:World}{a:Act}{T:fq}{env:List (Nat×D)}{K:Rows->Prop}:∀{l:List iu} {R:Rows} {c:Ctx},Iu T l env R K->fv N M c0 w0 c w ⟨env,R⟩ a->∃R' c',K R'/\fv N M c0 w0 c' w ⟨env,R'⟩ a
 |[],R,c,h,hs=>⟨R,c,h,hs⟩
 |.int _ _::l,R,c,h,hs=>Gk (l:=l) h hs
 |.arr _::l,R,c,h,hs=>Gk (l:=l) h hs
 |.sl _ _ _::l,R,c,h,hs=>Gk (l:=l) h hs
 |.fn _ _::l,R,c,h,hs=>Gk (l:=l) h hs
 |.ptr i _ _::l,R,c,h,hs=>by
  simp only[Iu]at h
  split at h
  rotate_left
  ·exact Gk (l:=l) h hs
  rename_i ty sz u n hr
  obtain⟨h0,d,h2,hd⟩:=qc hr
  simp only[nk,Nj]at h
  have cf:i<R.length:=by
   by_cases cf:i<R.length
   ·exact cf
   ·rw[aK,aM (by omega)]at h2;cases h2
  rw[List.set_append_left _ _ cf]at h
  have hi:c.R i=some ⟨true,ty,sz,.gen [[d]]⟩:=by rw[hs.rows];exact h2
  have hn:c.R R.length=none:=by rw[hs.rows,aK,aM (aO _)];rfl
  have gr:i≠R.length:=by omega
  have Iv:=Wv hs.mem hn (row:=⟨false,u,n,.gen []⟩) rfl rfl h0
  have Ww:=SJ (w:=w) hn ⟨false,u,n,.gen []⟩
  have Wx:(c.jr R.length ⟨false,u,n,.gen []⟩).R i=some ⟨true,ty,sz,.gen [[d]]⟩:=by simp[Ctx.jr,gr,hi]
  obtain⟨Wy,BV⟩:=vb (e':=[.all R.length]) Iv Wx rfl (λarr hc=>by
   obtain⟨⟨v,hv,h1⟩,_⟩:=hc
   refine⟨⟨v,hv,⟨false,u,n,.gen []⟩,by simp[Ctx.jr],rfl,.inl ⟨.inl rfl,?_⟩⟩,trivial⟩
   rcases hd with rfl|rfl
   ·exact⟨none,h1,Qu⟩
   ·exact h1)
  have hg:=Ww.trans Wy
  have nE:lN c w ((c.jr R.length ⟨false,u,n,.gen []⟩).jA i ⟨true,ty,sz,.gen [[.all R.length]]⟩) w:=by
   refine⟨BV,hg,Fr.refl _ w,λb hb=>.inl hb,λr ak hr hv=>.inl ?_⟩
   have Al:r≠R.length:=λe=>hv (.inl e)
   by_cases er:r=i
   ·subst er;exact⟨⟨_,hi⟩,λe=>hv (.inr e),rfl⟩
   ·exact⟨⟨ak,by simpa[Ctx.jA,Ctx.jr,er,Al]using hr⟩,λe=>hv (.inr e),rfl⟩
  refine Gk (l:=l) h ⟨BV,λr=>?_,λt=>Ae hg (hs.env t),hs.size,hs.defers,hs.gh,hs.gw,hs.reach.step (ks:=[]) (λk hk=>by simp[bw]at hk) hs.gw nE.toK⟩
  simp only[Ctx.jA,Ctx.jr]
  by_cases er:r=i
  ·subst er
   simp[aK,aZ (show r<(R.set r _).length by simpa using cf),cf]
  ·rw [if_neg er]
   by_cases en:r=R.length
   ·subst en
    simp[aK]
   ·rw[if_neg en,hs.rows]
    by_cases hl:r<R.length
    ·simp[aK,aZ (show r<(R.set i _).length by simpa using hl),List.getElem?_set_ne (Ne.symm er)]
    ·have h1:R.getD r none=none:=by rw[aK,aM (by omega)];rfl
     rw[h1,aK,aM (by simp;omega)];rfl
