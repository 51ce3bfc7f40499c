import Derived.Test.YthjfindbamdacaaGreatDoorAuditTellsFk
import Derived.Laws.IdiomStrings
import Derived.Laws.BytesArg
import Derived.Laws.Cover3
import Derived.RangeFuncRecord
import Derived.OrdersIn
import Derived.LoopNIn
open List renaming getD->aK,getElem?_take->aU,getElem?_toArray->aY,getElem?_append_left->aZ,size_toArray->bA,getElem?_append_right->bB,length_take->bD,length_drop->bF,getElem?_eq_none->aM,range'->bK,map_append->bL,map_congr_left->bM,ext_getElem->bN,getElem_map->bO,getElem_range'->bP,map_toArray->bR
open Nat renaming mul_le_mul_right->aV,succ_mul->aW,zero_add->aX,add_mul->bC,le_refl->aO,add_zero->bG,le_trans->bH,lt_of_lt_of_le->bI,blt->bJ
open Bool renaming or_eq_true->aI,false_eq_true->aN
open Array renaming getD->aP,empty_append->bQ,toArray_toList->bS
open Option renaming bind_some->aL
set_option linter.all false
namespace Go.GD
open Go
theorem Zew{P:Program}(w:World){t tx ty e:TypeId}{i:TypeInfo}(ht:P.underlying t=some (.slice e))(hi:P.info? e=some i)
 {a:Option Addr} {n cap m:Nat} {x:Value} {news:List Value} (hl:(Builtin.lenOf x).run P w=.ok m w) (hf:(Builtin.firstCells i.size (min m n) x).run P w=.ok news.toArray w) {w':World}
 (j0:∀b,a=some b->(storeCells b news).run P w=.ok () w') (oQ:a=none->w'=w):
 (Builtin.copy_ #[t,tx] ty #[.slice a n cap,x]).run P w=.ok (.int .i64 (min m n:Nat)) w':=by
 cases a with
 |none=>
  have:=oQ rfl
  subst this
  simp[Builtin.copy_,run_underlying ht,sizeOf,typeInfo,hi,hl,goInt,hf]
 |some b=>simp[Builtin.copy_,run_underlying ht,sizeOf,typeInfo,hi,hl,goInt,hf,j0 b rfl]
theorem Z9d{I:ag}{w:World}{es:List (List D)}{news:List Value}{sz k:Nat}(h:iN I w es news.toArray 0 sz)(hk:k<=es.length):iN I w (es.take k) (news.take (k*sz)).toArray 0 sz:=by
 rw[wA]at h⊢
 intro i hi
 have iJ:i<k:=by simp at hi;omega
 obtain⟨h1,h2⟩:=h i (by omega)
 have he:(es.take k).getD i []=es.getD i []:=by simp[aK,aU,iJ]
 rw[he]
 refine⟨h1,?_⟩
 rw[ud]at h2⊢
 intro j hj
 obtain⟨v,hv,hp⟩:=h2 j hj
 refine⟨v,?_,hp⟩
 have cq:i*sz+j<k*sz:=by
  have:=aV sz (show i+1<=k by omega)
  rw[aW]at this
  omega
 simp only[aX,aY]at hv⊢
 rw[aU,if_pos cq]
 exact hv
theorem Qz1{I:ag}{w:World}{es ys:List (List D)}{A B:List Value}{sz:Nat}(h1:iN I w es A.toArray 0 sz)(hA:A.length=es.length*sz)(h2:iN I w ys B.toArray 0 sz):iN I w (es++ys) (A++B).toArray 0 sz:=by
 rw[wA]at h1 h2⊢
 intro i hi
 by_cases cq:i<es.length
 ·have he:(es++ys).getD i []=es.getD i []:=by simp[aK,aZ cq]
  rw[he]
  obtain⟨g1,g2⟩:=h1 i cq
  refine⟨g1,?_⟩
  rw[ud]at g2⊢
  intro j hj
  obtain⟨v,hv,hp⟩:=g2 j hj
  refine⟨v,?_,hp⟩
  have hl:=(Array.getElem?_eq_some_iff.1 hv).1
  simp only[aY,bA]at hv hl⊢
  rw[aZ hl];exact hv
 ·have iJ:i-es.length<ys.length:=by simp at hi;omega
  have he:(es++ys).getD i []=ys.getD (i-es.length) []:=by simp[aK,bB (show es.length<=i by omega)]
  rw[he]
  obtain⟨g1,g2⟩:=h2 _ iJ
  refine⟨g1,?_⟩
  rw[ud]at g2⊢
  intro j hj
  obtain⟨v,hv,hp⟩:=g2 j hj
  refine⟨v,?_,hp⟩
  simp only[aY]at hv⊢
  have e:0+i*sz+j=A.length+(0+(i-es.length)*sz+j):=by
   rw[hA,show i*sz=(es.length+(i-es.length))*sz by congr 1;omega,bC];omega
  rw[e,bB (by omega)]
  rw[show A.length+(0+(i-es.length)*sz+j)-A.length=0+(i-es.length)*sz+j by omega]
  exact hv
theorem Zpu{I:ag}{w:World}{es:List (List D)}{arr:Array Value}{sz k:Nat}(h:iN I w es arr 0 sz):iN I w (es.drop k) (arr.toList.drop (k*sz)).toArray 0 sz:=by
 have:=KB (l:=k) h
 rw[wA]at this⊢
 intro i hi
 obtain⟨h1,h2⟩:=this i hi
 refine⟨h1,?_⟩
 rw[ud]at h2⊢
 intro j hj
 obtain⟨v,hv,hp⟩:=h2 j hj
 refine⟨v,?_,hp⟩
 simp only[aY,List.getElem?_drop]
 rw[<-hv]
 simp[Nat.add_assoc]
theorem xD{c:Ctx}{w:World}(hm:Mem c w){r:Nat}{row aq:Row}(hr:c.R r=some row)(h1:aq.box=row.box)(hb:row.box=false)(h2:aq.ty=row.ty)(h3:aq.sz=row.sz)(h4:aq.es.l=row.es.l):jq c w (c.jI r aq) w/\Mem (c.jI r aq) w:=by
 have hg:jq c w (c.jI r aq) w:=by
  refine⟨rfl,aO _,λb hb=>⟨hb,rfl⟩,λs x hs=>?_⟩
  by_cases e:s=r
  ·subst e
   rw[hr]at hs;cases hs
   exact⟨aq,by simp[Ctx.jI],h1,h2,h3,by rw[h4],rfl,Iff.rfl,λ_ a ha=>⟨a,ha,rfl⟩⟩
  ·exact⟨x,by simp[Ctx.jI,e,hs],rfl,rfl,rfl,rfl,rfl,Iff.rfl,λ_ a ha=>⟨a,ha,rfl⟩⟩
 have jG:∀s x,(c.jI r aq).R s=some x->∃x',c.R s=some x':=λs x hs=>by
  by_cases e:s=r
  ·exact⟨row,by rw[e];exact hr⟩
  ·exact⟨x,by simpa[Ctx.jI,e]using hs⟩
 refine⟨hg,λs x hs=>?_,λs q x y hs hq v1 v2 he=>?_,λb iL=>⟨(hm.fk b iL).1,λs x hs hv=>?_⟩,hm.top,hm.kX⟩
 ·by_cases e:s=r
  ·subst e
   simp only[Ctx.jI,if_true,Option.some.injEq]at hs
   subst hs
   rcases hm.row _ row hr with⟨g0,g1,g2,g3⟩|⟨g0,arr,g1,g2,g3⟩
   ·exact .inl ⟨g0,h1.trans g1,h4.trans g2,by rw[h3];exact g3⟩
   ·refine .inr ⟨g0,arr,by rw[h2];exact g1,by rw[h3];exact g2,?_⟩
    rw[if_neg (by rw[hb];simp)]at g3
    rw[if_neg (by rw[h1,hb];simp),h4,h3]
    exact g3
  ·have jn:c.R s=some x:=by simpa[Ctx.jI,e]using hs
   exact ue hg rfl Iff.rfl (λ_=>rfl) (hm.row s x jn)
 ·obtain⟨x',jL⟩:=jG s x hs
  obtain⟨y',Au⟩:=jG q y hq
  exact hm.inj s q x' y' jL Au v1 v2 he
 ·obtain⟨x',jL⟩:=jG s x hs
  exact(hm.fk b iL).2 s x' jL hv
theorem ya{P:Program}{T:fj}(hT:jF P T){t tx ty:TypeId}{x y:D}{R:Rows}{K:D->Rows->Prop}(h:uf T t tx x y R K):
 ∃ val R',K val R'/\∀c w vx vy,Mem c w->(∀r,c.R r=R.getD r none)->Rep c w x vx->Rep c w y vy->
  ∃v' w' c',(Builtin.copy_ #[t,tx] ty #[vx,vy]).run P w=.ok v' w'/\lU c w c' w'/\(∀r,c'.R r=R'.getD r none)/\Rep c' w' val v':=by
 unfold uf at h
 split at h
 ·rename_i e iR _ _ _ _ _ ht
  have hk:=mY hT ht
  simp only at hk
  split at h
  ·rename_i ke sz lV cs z q kx _ _ _ _ _ he htx
   obtain⟨i0,rU,ET,_,Br,Av,_⟩:=DV (hT.get he)
   simp only at ET
   split at h
   ·rename_i sy ys ka
    simp only[c9,aE,aI]at h
    obtain⟨⟨⟨h0,h1⟩,h5⟩,h⟩:=h
    have h0:0<sz:=lE h0
    have h5:sy=sz\/ys.l=[]:=h5.imp bE SD
    have core:∀(r o n k:Nat) (j6:TypeId) (es ji:ai),ji.l=es.l.take o++ys.l.take k++es.l.drop (o+k)->R.getD r none=some ⟨false,j6,sz,es⟩->k=min ys.l.length n->o+n<=es.l.length->∀c w vx vy,Mem c w->(∀r,c.R r=R.getD r none)->
     ((n=0/\∃a,vx=.slice a 0 0)\/(¬c.V r/\∃cap arr,vx=.slice (some ⟨c.ρ r,o*sz,none⟩) n cap/\w.heap[c.ρ r]?=some (.cells arr j6 (0,0))))->Rep c w y vy->
     ∃v' w' c',(Builtin.copy_ #[t,tx] ty #[vx,vy]).run P w=.ok v' w'/\lU c w c' w'/\(∀q,c'.R q=(R.set r (some ⟨false,j6,sz,ji⟩)).getD q none)/\v'=.int .i64 (k:Nat):=by
     intro r o n k j6 es ji It hr EP KC c w vx vy hm hR hx hy
     have pb:mK c R:=λr row aq g1 g2=>by rw[hR,g2]at g1;exact(Option.some.inj g1).symm
     obtain⟨news,s1,s2,s3,s4⟩:=yX (P:=P) h0 ka h5 hm pb hy
     have cr:c.R r=some ⟨false,j6,sz,es⟩:=by rw[hR];exact hr
     rcases hx with⟨hn0,a,hx⟩|⟨hV,cap,arr,hx,hh⟩
     ·subst hx
      have Av:k=0:=by omega
      have iu:=Zew (P:=P) w (ty:=ty) (tx:=tx) (a:=a) (n:=0) (cap:=0) (news:=[]) (w':=w) hk.1 rU s2 (by rw[ET];simpa using s3 0 (Nat.zero_le _) w rfl) (λb _=>by simp[storeCells]) (λ_=>rfl)
      have hl:ji.l=es.l:=by rw[It,Av];simp
      obtain⟨u1,u2⟩:=xD hm cr (aq:=⟨false,j6,sz,ji⟩) rfl rfl rfl rfl hl
      refine⟨_,w,c.jI r ⟨false,j6,sz,ji⟩,iu,⟨u2,u1,Fr.refl _ w,λb hb=>.inl hb,λq row hq v=>.inl ⟨?_,v,rfl⟩⟩,λq=>?_,by rw[Av];simp⟩
      ·by_cases e:q=r
       ·exact⟨_,by rw[e];exact cr⟩
       ·exact⟨row,by simpa[Ctx.jI,e]using hq⟩
      ·rw[Wj hr]
       simp only[Ctx.jI]
       split
       ·rfl
       ·exact hR q
     ·subst hx
      obtain⟨cur,ha,_,hE⟩:=hm.real cr hV
      simp only at ha
      rw[hh]at ha;cases ha
      simp only[aN,if_false]at hE
      have kZ:es.l.length*sz<=arr.size:=by
       by_cases he:es.l.length=0
       ·rw[he];omega
       ·have:=Z49 hE h0 (show es.l.length-1<es.l.length by omega)
        have e1:es.l.length*sz=(es.l.length-1)*sz+sz:=by rw[show es.l.length*sz=(es.l.length-1+1)*sz by congr 1;omega,aW]
        omega
      have Wk:k<=ys.l.length/\k<=n:=by omega
      have rl:o*sz+0+(news.take (k*sz)).length<=arr.size:=by
       have h1:(o+k)*sz<=es.l.length*sz:=aV _ (by omega)
       rw[bC]at h1
       rw[bD];omega
      have hlen:(news.take (k*sz)).length=k*sz:=by
       have:=aV sz Wk.1
       rw[bD];omega
      have j0:=run_storeCells_at (P:=P) (c.ρ r) (o*sz) j6 (news.take (k*sz)) 0 arr w hh rl (λu hu=>iN.one s4 s1 u (List.mem_of_mem_take hu))
      have iu:=Zew (P:=P) w (ty:=ty) (tx:=tx) (a:=some ⟨c.ρ r,o*sz,none⟩) (n:=n) (cap:=cap) (news:=news.take (k*sz)) (w':=w.setRow (c.ρ r) (arr.toList.take (o*sz+0)++news.take (k*sz)++arr.toList.drop (o*sz+0+(news.take (k*sz)).length)).toArray) hk.1 rU s2 (by rw[ET,<-EP];exact s3 k Wk.1 w rfl) (λb hb=>by cases hb;simpa using j0) (λh=>by cases h)
      have wC:ji.l.length=es.l.length:=by rw[It];simp only[lA,bD,bF];omega
      have hw:=hm.write (aq:=⟨false,j6,sz,ji⟩) cr hV hh (arr:=(arr.toList.take (o*sz+0)++news.take (k*sz)++arr.toList.drop (o*sz+0+(news.take (k*sz)).length)).toArray)
       (by simp only[bA,lA,bD,bF,Array.length_toList];simp only[bD]at rl;omega) rfl rfl rfl wC
      have gv:=hw.2 ⟨h0,by
       simp only[aN,if_false]
       rw[It]
       refine oh (λb hb=>⟨hb,(hw.1.I b hb).2⟩) _ _ _ _ ?_
       have p1:=Z9d (k:=o) (I:=c.I) (w:=w) (news:=arr.toList) (es:=es.l) (sz:=sz) (by simpa using hE) (by omega)
       have p2:=Z9d (k:=k) s4 Wk.1
       have p3:=Zpu (k:=o+k) hE
       have l1:(arr.toList.take (o*sz)).length=(es.l.take o).length*sz:=by
        have:=aV sz (show o<=es.l.length by omega)
        rw[bD,bD,show min o es.l.length=o by omega,show arr.toList.length=arr.size from rfl];omega
       have q1:=Qz1 p1 l1 p2
       have l2:(arr.toList.take (o*sz)++news.take (k*sz)).length=(es.l.take o++ys.l.take k).length*sz:=by
        rw[lA,l1,hlen,lA,bC,bD (l:=ys.l),show min k ys.l.length=k by omega]
       have q2:=Qz1 q1 l2 p3
       have e2:o*sz+0+(news.take (k*sz)).length=(o+k)*sz:=by rw[hlen,bC];omega
       rw[e2]
       simpa using q2⟩
      refine⟨_,_,c.jI r ⟨false,j6,sz,ji⟩,iu,⟨gv,hw.1,(SE w _ _).mono λb _ hb=>⟨r,_,cr,hV,hb.symm⟩,λb hb=>.inl hb,λq aq hq v=>.inl ⟨?_,v,rfl⟩⟩,λq=>?_,by rw[EP]⟩
      ·by_cases e:q=r
       ·exact⟨_,by rw[e];exact cr⟩
       ·exact⟨aq,by simpa[Ctx.jI,e]using hq⟩
      ·rw[Wj hr]
       simp only[Ctx.jI]
       split
       ·rfl
       ·exact hR q
    cases x<;>simp only at h
    case all r=>
     split at h
     ·rename_i j6 s es hr
      simp only[c9,nm]at h
      have hs:=bE h.1
      subst hs
      refine⟨_,_,h.2,λc w vx vy hm hR hx hy=>?_⟩
      obtain⟨row,q1,q2,hv⟩:=hx
      have cr:row=⟨false,j6,s,es⟩:=by rw[hR,hr]at q1;exact(Option.some.inj q1).symm
      subst cr
      have jL:(es.l.length=0/\∃a,vx=.slice a 0 0)\/(¬c.V r/\∃cap arr,vx=.slice (some ⟨c.ρ r,0*s,none⟩) es.l.length cap/\w.heap[c.ρ r]?=some (.cells arr j6 (0,0))):=by
       rcases hv with⟨hV,a,hv,_⟩|⟨hV,cap,arr,hv,h1,h2,h3,h4⟩
       ·have:=(hm.oi q1 hV).2.1
        simp only at this
        exact .inl ⟨by rw[this];rfl,a,hv⟩
       ·exact .inr ⟨hV,cap,arr,by rw[Nat.zero_mul];exact hv,h3⟩
      obtain⟨v',w',c',p1,p2,p3,p4⟩:=core r 0 es.l.length _ j6 es ((ys.take (min ys.len es.len)).app (es.drop (min ys.len es.len))) (by rw[ai.kb,ai.jf,ai.kv,ai.iK,ai.iK];simp) hr rfl (by omega) c w vx vy hm hR jL hy
      exact⟨v',w',c',p1,p2,p3,by rw[p4,ai.iK,ai.iK];rfl⟩
     ·exact h.elim
    case own r o n=>
     split at h
     ·rename_i j6 s es hr
      simp only[c9,nm]at h
      have hs:=bE h.1
      subst hs
      refine⟨_,_,h.2,λc w vx vy hm hR hx hy=>?_⟩
      obtain⟨row,q1,q2,ho,hv⟩:=hx
      have cr:row=⟨false,j6,s,es⟩:=by rw[hR,hr]at q1;exact(Option.some.inj q1).symm
      subst cr
      have jL:(n=0/\∃a,vx=.slice a 0 0)\/(¬c.V r/\∃cap arr,vx=.slice (some ⟨c.ρ r,o*s,none⟩) n cap/\w.heap[c.ρ r]?=some (.cells arr j6 (0,0))):=by
       rcases hv with⟨h0,a,hv,_⟩|⟨hV,cap,arr,h1,h2,h3,hv,h4⟩
       ·exact .inl ⟨h0,a,hv⟩
       ·exact .inr ⟨hV,cap,arr,hv,h3⟩
      obtain⟨v',w',c',p1,p2,p3,p4⟩:=core r o n _ j6 es (((es.take o).app (ys.take (min ys.len n))).app (es.drop (o+min ys.len n))) (by rw[ai.kb,ai.kb,ai.jf,ai.jf,ai.kv,ai.iK]) hr rfl ho c w vx vy hm hR jL hy
      exact⟨v',w',c',p1,p2,p3,by rw[p4,ai.iK];rfl⟩
     ·exact h.elim
   ·exact h.elim
  ·exact h.elim
 ·exact h.elim
theorem Zmb{mx:Bool}{x y:D}{K:D->Prop}(h:wD mx x y K):∃val,K val/\∀(P:Program) c w vx vy,Rep c w x vx->Rep c w y vy->∃u,((mx=false->∀da ty,(Builtin.min_ da ty #[vx,vy]).run P w=.ok u w)/\(mx=true->∀da ty,(Builtin.max_ da ty #[vx,vy]).run P w=.ok u w))/\Rep c w val u:=by
 unfold wD at h
 split at h
 ·rename_i k a k' b
  simp only[c9,decide_eq_true_eq]at h
  obtain⟨rfl,h⟩:=h
  refine⟨_,h,λP c w vx vy hx hy=>⟨_,⟨λe da ty=>?_,λe da ty=>?_⟩,rfl⟩⟩
  ·subst e
   rw[Rep.int.1 hx,Rep.int.1 hy]
   simp[Builtin.min_,Builtin.min2]
  ·subst e
   rw[Rep.int.1 hx,Rep.int.1 hy]
   simp[Builtin.max_,Builtin.max2]
 ·exact h.elim
theorem zD{P:Program}{T:fj}(hT:jF P T){t:TypeId}{es:ai}{K:D->Prop}(h:BT T t es K):K (.rk es)/\∀s fr c w vx vy,Rep c w (.sl s es fr) vx->Rep c w .du vy->∃u,(∀x y,(do eqGuard .eql t x y vx vy;binOp .eql t vx vy).run P w=.ok u w)/\Rep c w (.rk es) u:=by
 unfold BT at h
 split at h
 ·rename_i e n _ _ _ _ _ ht
  have hk:=mY hT ht
  simp only at hk
  refine⟨h,λs fr c w vx vy hx hy=>?_⟩
  obtain⟨a,cap,hv,hc,gx⟩:=hx
  rw[show vy=_ from hy,hv]
  refine⟨.bool a.isNone,λx y=>?_,a.isNone,rfl,λe'=>?_⟩
  ·have hg:(eqGuard .eql t x y (.slice a es.l.length cap) (.slice none 0 0)).run P w=.ok () w:=rfl
   rw[Sem.run_bind,hg]
   simp only[Result.andThen_ok,binOp]
   simp only[run_equal_slice_nil w t e a es.l.length cap hk.1,Sem.run_bind,Result.andThen_ok,Sem.run_pure]
  ·rcases gx with gx|⟨b,off,arr,ty,fz,ha,_⟩
   ·exact gx
   ·subst ha;cases e'
 ·exact h.elim
theorem Zor{I:ag}{w:World}{l:List Int}{news:List Value}(h:iN I w (ai.ints .u8 l).l news.toArray 0 1)(hl:news.length=(ai.ints .u8 l).l.length*1):news=l.map (Value.int .u8):=by
 have tF:news.length=l.length:=by simpa[ai.len]using hl
 apply List.ext_getElem?
 intro i
 by_cases hi:i<l.length
 ·obtain⟨h1,h2⟩:=wA.1 h i (by simpa[ai.len]using hi)
  rw[ai.nn _ (show i<(ai.ints .u8 l).len from hi)]at h2
  simp only[ai.get,BU,Aw,sB,rV,sC,sD,Q4,sE,tG,ug,uh,ui,uj,uk,um,uo,uq,ur,and_true]at h2
  obtain⟨v,hv,hp⟩:=h2
  simp only[aX,Nat.mul_one,bG,aY]at hv
  rw[hv,hp]
  simp[aK,hi]
 ·rw[aM (by omega),aM (by simp;omega)]
theorem yD{P:Program}{T:fj}(hT:jF P T){s e d:TypeId}{n a1 a2:Nat}{a3:List rm}{a4:Option (List D)}{a5:Bool}(hs:T.get s=some ⟨.slice e n,a1,a2,a3,a4,a5⟩){x:D}{R:Rows}{K:D->Prop}(h:wE T e d x R K):
 ∃val,K val/\∀c w v,Mem c w->mK c R->Rep c w x v->Gi P (convert s d v) w c val:=by
 unfold wE at h
 split at h
 ·rename_i he hd
  have od:=mY hT hs
  have rR:=mY hT he
  have KD:=mY hT hd
  simp only at od rR KD
  split at h
  ·rename_i sy es ka
   split at h
   rotate_left
   ·exact h.elim
   rename_i l hto
   have KE:=ai.toI_l hto
   simp only[c9,aI]at h
   obtain⟨h5,h⟩:=h
   have h5:sy=1\/es.l=[]:=h5.imp bE SD
   refine⟨_,h,λc w v hm hA hr=>?_⟩
   have hsl:∃a cap,v=.slice a es.l.length cap:=by
    cases x<;>simp only[sF]at ka<;>try(cases ka;done)
    case du=>cases ka;exact⟨none,0,hr⟩
    case emp=>cases ka;obtain⟨a,hr,_⟩:=hr;exact⟨a,0,hr⟩
    case sl=>cases ka;obtain⟨a,cap,hv,_⟩:=hr;exact⟨a,cap,hv⟩
    case all r=>
     split at ka
     ·rename_i j6 s' ji hR
      cases ka
      obtain⟨row,g1,g2,hv⟩:=hr
      have:=hA r row _ g1 hR
      subst this
      rcases hv with⟨hV,a,hv,_⟩|⟨hV,cap,arr,hv,_⟩
      ·have he:=(hm.oi g1 hV).2.1
       simp only at he
       exact⟨a,0,by rw[he];exact hv⟩
      ·exact⟨_,cap,hv⟩
     ·cases ka
    case own r o m=>
     split at ka
     ·rename_i j6 s' ji hR
      cases ka
      obtain⟨row,g1,g2,g5,hv⟩:=hr
      have:=hA r row _ g1 hR
      subst this
      simp only at g5
      have hlen:((ji.drop o).take m).l.length=m:=by rw[ai.jf,ai.kv];simp only[bD,bF];omega
      rw[hlen]
      rcases hv with⟨h0,a,hv,_⟩|⟨hV,cap,arr,_,_,_,hv,_⟩
      ·subst h0;exact⟨a,0,hv⟩
      ·exact⟨_,cap,hv⟩
     ·cases ka
   obtain⟨a,cap,hv⟩:=hsl
   subst hv
   obtain⟨news,s1,s2,s3,s4⟩:=xX (P:=P) (by omega) ka h5 hm hA hr
   rw[KE]at s1 s4
   have hn:=Zor s4 s1
   have hlen:es.l.length=l.length:=by rw[KE];simp[ai.len]
   have hf:=s3 es.l.length (aO _) w rfl
   rw[List.take_of_length_le (by rw[hn,hlen];simp)]at hf
   refine⟨.string ⟨(bytesOf l).toArray⟩,?_,rfl⟩
   rw[run_convert_bytes_string w s d e a es.l.length cap od.1 rR KD]
   cases a with
   |none=>
    simp only[Builtin.firstCells,Sem.run_pure,Result.ok.injEq,and_true]at hf
    have h1:news=[]:=by
     have:=congrArg Array.toList hf
     simpa using this.symm
    have he:l=[]:=by rw[h1]at hn;simpa using hn.symm
    subst he
    simp only[Conv.bytesToString,Sem.run_pure,bytesOf,List.map_nil]
    rfl
   |some a=>
    simp only[Builtin.firstCells,Nat.mul_one]at hf
    rw[hn]at hf
    rw[run_bytesToString w a es.l.length cap _ hf,foldl_push_bytes]
    have he0:ByteArray.empty.data= #[]:=rfl
    rw[he0]
    simp[bytesOf]
  ·exact h.elim
 ·exact h.elim
structure An(c0:Ctx)(w0:World)(c:Ctx)(w:World):Prop where
 cj:jq c0 w0 c w
 fr:Fr (λb=>(∃r x,c0.R r=some x/\¬c0.V r/\c0.ρ r=b)\/c0.X b) w0 w
 fk:∀b,c.I b->c0.I b\/c0.X b\/w0.heap.size<=b
 oj:∀r row,c.R r=some row->¬c.V r->((∃x,c0.R r=some x)/\¬c0.V r/\c.ρ r=c0.ρ r)\/c0.X (c.ρ r)\/w0.heap.size<=c.ρ r
 xb:∀b,c0.X b->c0.base<=b
theorem An.refl(c:Ctx)(w:World):An {c with X:=λ_=>False} w c w:=
 ⟨⟨rfl,aO _,λ_ h=>⟨h,rfl⟩,λ_ row h=>⟨row,h,rfl,rfl,rfl,rfl,rfl,Iff.rfl,λ_ arr h=>⟨arr,h,rfl⟩⟩⟩,Fr.refl _ w,λ_ h=>.inl h,λ_ row h v=>.inl ⟨⟨row,h⟩,v,rfl⟩,λ_ h=>h.elim⟩
theorem Zku{c0 c:Ctx}{w0 w:World}{M:Nat}{ks:List Nat}(hM:∀k,cf k ks=true->M<=k)(EU:∀r row,c0.R r=some row->r<M)(h:jq c0 w0 c w):jq c0 w0 (c.kill ks) w:=by
 refine⟨h.base,h.top,h.I,λr row hr=>?_⟩
 obtain⟨aq,g1,g2,g3,g4,g5,g6,gV,g7⟩:=h.R r row hr
 obtain⟨s1,s2,s3,s4⟩:=wF ks aq
 have cq:=EU r row hr
 refine⟨aq.kill ks,?_,s1.trans g2,s2.trans g3,s3.trans g4,s4.trans g5,g6,gV,g7⟩
 simp only[Ctx.kill]
 rw[if_neg (λe=>by have:=hM r e;omega),g1];rfl
theorem An.step{c0 c c':Ctx}{w0 w w':World}{M:Nat}{ks:List Nat}(hM:∀k,cf k ks=true->M<=k)(EU:∀r row,c0.R r=some row->r<M)(h:An c0 w0 c w)(n:jM ks c w c' w'):An c0 w0 c' w':=by
 have BV:∀s x,cf s ks=true->c.R s=some x->¬c.V s->c0.X (c.ρ s)\/w0.heap.size<=c.ρ s:=λs x hs hx v'=>by
  rcases h.oj s x hx v' with⟨⟨y,hy⟩,_⟩|e'
  ·have:=EU s y hy;have:=hM s hs;omega
  ·exact e'
 refine⟨(Zku hM EU h.cj).trans n.cj,⟨n.fr.os.trans h.fr.os,n.fr.tape.trans h.fr.tape,n.fr.output.trans h.fr.output,bH h.fr.size n.fr.size,λb hb hx=>?_⟩,λb hb=>?_,λr row hr hv=>?_,h.xb⟩
 ·have cq:b<w.heap.size:=bI hb h.fr.size
  refine(n.fr.heap b cq fun⟨r,x,hr,v,e⟩=>?_).trans (h.fr.heap b hb hx)
  rcases h.oj r x hr v with⟨⟨y,hy⟩,v',e'⟩|e'|e'
  ·exact hx (.inl ⟨r,y,hy,v',by rw[<-e',e]⟩)
  ·exact hx (.inr (by rw[<-e];exact e'))
  ·omega
 ·rcases n.fk b hb with h1|⟨s,x,hs,hx,v',e⟩|h1
  ·exact h.fk b h1
  ·rcases BV s x hs hx v' with h1|h1
   ·exact .inr (.inl (by rw[<-e];exact h1))
   ·exact .inr (.inr (by omega))
  ·have:=h.fr.size;exact .inr (.inr (by omega))
 ·rcases n.oj r row hr hv with⟨⟨x,hx⟩,v',e⟩|⟨s,x,hs,hx,v',e⟩|e
  ·rcases h.oj r x hx v' with⟨h1,h2,e'⟩|e'|e'
   ·exact .inl ⟨h1,h2,e.trans e'⟩
   ·exact .inr (.inl (by rw[e];exact e'))
   ·exact .inr (.inr (by omega))
  ·rcases BV s x hs hx v' with h1|h1
   ·exact .inr (.inl (by rw[e];exact h1))
   ·exact .inr (.inr (by omega))
  ·have:=h.fr.size;exact .inr (.inr (by omega))
def mg(n:Nat)(w:World)(ds:List Deferred):Prop:=∃bs:List Nat,bs.Nodup/\ds=bs.map (λb=>({target:=.collected b,args:= #[]}:Deferred))/\∀b∈bs,n<=b/\w.heap[b]?=some (.deferred (some []))
theorem mg.nil{n:Nat}{w:World}:mg n w []:=⟨[],List.nodup_nil,rfl,λb hb=>by simp at hb⟩
theorem mg.to{n:Nat}{w w':World}{ds:List Deferred}(h:mg n w ds)(hf:∀b:Nat,w.heap[b]?=some (Obj.deferred (some []))->w'.heap[b]?=some (Obj.deferred (some []))):mg n w' ds:=by
 obtain⟨bs,h1,h2,h3⟩:=h
 exact⟨bs,h1,h2,λb hb=>⟨(h3 b hb).1,hf b (h3 b hb).2⟩⟩
theorem mg.step{n:Nat}{c:Ctx}{w w':World}{ds:List Deferred}(h:mg n w ds)(hm:Mem c w)(hf:Fr (λb=>∃r x,c.R r=some x/\¬c.V r/\c.ρ r=b) w w'):mg n w' ds:=by
 refine h.to λb h2=>(hf.heap b (Array.getElem?_eq_some_iff.1 h2).1 fun⟨r,x,hr,hV,e⟩=>?_).trans h2
 rcases hm.row r x hr with h3|⟨_,arr,h3,_⟩
 ·exact hV h3.1
 ·rw[e,h2]at h3;cases h3
theorem mg.put{n:Nat}{w:World}{a:Act}{dst:Option Tmp}{v:Value}(h:mg n w a.defers):mg n w (a.put dst v).defers:=by
 cases dst<;>exact h
structure ft(N M:Nat)(c0:Ctx)(w0:World)(c:Ctx)(w:World)(st:St)(a:Act):Prop where
 mem:Mem c w
 rows:∀r,c.R r=st.rows.getD r none
 env:∀t,Rep c w (look st.env t) (a.tmps.getD t undef)
 size:N<=a.tmps.size
 defers:mg w0.heap.size w a.defers
 gb:c0.base<=w0.heap.size
 gq:∀r row,c0.R r=some row->r<M
 reach:An c0 w0 c w
theorem ft.base{N M:Nat}{c0:Ctx}{w0:World}{c:Ctx}{w:World}{st:St}{a:Act}(h:ft N M c0 w0 c w st a):c.base<=w.heap.size:=by
 rw[h.reach.cj.base];exact bH h.gb h.reach.fr.size
theorem Ky{c:Ctx}{w:World}{env:List (Nat×D)}{a:Act}(f:Nat):Rep c w (cb env (.func f)) (a.eval (.func f)):=by
 simp only[cb,Act.eval]
 cases h:bJ f YB with
 |false=>trivial
 |true=>exact⟨[],.inl ⟨lE h,rfl⟩,trivial⟩
theorem Nr{c:Ctx}{w:World}{env:List (Nat×D)}{a:Act}(h:∀t,Rep c w (look env t) (a.tmps.getD t undef))(x:Operand):Rep c w (cb env x) (a.eval x):=by
 cases x with
 |tmp t=>exact h t
 |const v=>
  simp only[cb,Act.eval]
  cases hv:Gg v with
  |none=>trivial
  |some d=>exact Nj hv c w
 |global g=>trivial
 |func f=>exact Ky f
def ss(env:List (Nat×D))(dst:Option Tmp)(d:D):List (Nat×D):=match dst with|none=>env|some t=>(t,d)::env
theorem Bp(env:List (Nat×D))(t:Nat)(d:D)(s:Nat):look ((t,d)::env) s=if t=s then d else look env s:=by
 simp only[look]
 cases hb:Nat.beq t s with
 |true=>rw[if_pos (bE hb)]
 |false=>rw[if_neg (λe=>by rw[e]at hb;simp at hb)]
theorem Z95{c:Ctx}{w:World}{env:List (Nat×D)}{a:Act}{N:Nat}(hN:N<=a.tmps.size){dst:Option Tmp}(hd:∀t,dst=some t->t<N){d:D}{v:Value}(h:∀t,Rep c w (look env t) (a.tmps.getD t undef))(hv:Rep c w d v)(t:Nat):
 Rep c w (look (ss env dst d) t) ((a.put dst v).tmps.getD t undef):=by
 cases dst with
 |none=>exact h t
 |some s=>
  have hs:=hd s rfl
  simp only[ss,Act.put,Bp]
  by_cases e:s=t
  ·subst e
   rw[if_pos rfl]
   have cq:s<a.tmps.size:=bI hs hN
   simpa[aP,cq]using hv
  ·rw[if_neg e]
   have:=h t
   simpa[Array.getElem?_setIfInBounds_ne e]using this
def jA:List Operand->Nat
 |[]=>1
 |.tmp t::l=>t+1+jA l
 |_::l=>jA l
theorem Wl:∀{l:List Operand},0<jA l
 |[]=>by simp[jA]
 |x::l=>by cases x<;>simp only[jA]<;>have:=Wl (l:=l)<;>omega
theorem SF{t:Nat}:∀{l:List Operand},.tmp t∈l->t<jA l
 |x ::l,h=>by
  rcases List.mem_cons.1 h with e|e
  ·subst e;simp only[jA];omega
  ·have:=SF e
   cases x<;>simp only[jA]<;>omega
def Gj(B:Nat):List iz->List (Nat×D)
 |[]=>[]
 |x::l=>(B,x.d)::Gj (B+1) l
theorem Ns{env:List (Nat×D)}:∀{cs:List iz} {B t:Nat},look (Gj B cs++env) t=if h:B<=t/\t-B<cs.length then(cs[t-B]'h.2).d else look env t
 |[],B,t=>by simp[Gj]
 |x ::l,B,t=>by
  simp only[Gj,List.cons_append,Bp,Ns (cs:=l) (B:=B+1)]
  by_cases e:B=t
  ·subst e;simp
  ·rw[if_neg e]
   by_cases h:B+1<=t/\t-(B+1)<l.length
   ·rw[dif_pos h,dif_pos (by simp;omega)]
    have:t-B=(t-(B+1))+1:=by omega
    simp only[this,List.getElem_cons_succ]
   ·rw[dif_neg h,dif_neg (by simp;omega)]
def EV(args:Array Operand)(n:Nat):Array Operand:=(args.toList++(bK (jA args.toList) n).map Operand.tmp).toArray
def tH(a:Act)(B:Nat)(us:List Value):Act:={tmps:=((List.range B).map (λi=>a.tmps.getD i undef)++us).toArray,defers:=[]}
theorem Zi1{a:Act}{B:Nat}{us:List Value}{t:Nat}(h:t<B):(tH a B us).tmps.getD t undef=a.tmps.getD t undef:=by
 simp[tH,aP,h,List.getElem_append]
 omega
theorem Zg9{a:Act}{B:Nat}{us:List Value}{i:Nat}:(tH a B us).tmps.getD (B+i) undef=us.getD i undef:=by
 simp only[tH,Array.getD_eq_getD_getElem?,aY]
 rw[bB (by simp)]
 simp[aK]
theorem oR.length{c:Ctx}{w:World}:∀{cs:List iz} {us:List Value},oR c w cs us->us.length=cs.length
 |[],[],_=>rfl
 |_::_,_::_,h=>by simp[oR.length h.2]
 |[],_::_,h=>h.elim
 |_::_,[],h=>h.elim
theorem oR.get{c:Ctx}{w:World}:∀{cs:List iz} {us:List Value},oR c w cs us->∀i (h:i<cs.length),SG c w (cs[i]'h) (us.getD i undef)
 |[],[],_,i,h=>by simp at h
 |_::_,_::_,h,0,_=>by simpa using h.1
 |_::_,_::_,h,i+1,hi=>by simpa using oR.get h.2 i (by simpa using hi)
 |[],_::_,h,_,_=>h.elim
 |_::_,[],h,_,_=>h.elim
theorem Za0{env:List (Nat×D)}{args:Array Operand}{cs:List iz}:(EV args cs.length).toList.map (cb (Gj (jA args.toList) cs++env))=args.toList.map (cb env)++cs.map iz.d:=by
 simp only[EV,bL]
 congr 1
 ·refine bM λx hx=>?_
  cases x with
  |tmp t=>simp only[cb,Ns];rw[dif_neg (by have:=SF hx;omega)]
  |_=>rfl
 ·refine bN (by simp) λi h1 h2=>?_
  have:i<cs.length:=by simpa using h2
  simp only[bO,bP,cb,Ns]
  rw[dif_pos (by omega)]
  congr 1
  simp
theorem Qz2{a:Act}{args:Array Operand}{us:List Value}:(EV args us.length).toList.map (tH a (jA args.toList) us).eval=args.toList.map a.eval++us:=by
 simp only[EV,bL]
 congr 1
 ·refine bM λx hx=>?_
  cases x with
  |tmp t=>exact Zi1 (SF hx)
  |_=>rfl
 ·refine bN (by simp) λi h1 h2=>?_
  have:i<us.length:=h2
  simp only[bO,bP,Act.eval,Nat.one_mul]
  rw[Zg9]
  simp[aK,this]
theorem BW{c:Ctx}{w:World}{env:List (Nat×D)}{a:Act}{args:Array Operand}{cs:List iz}{us:List Value}(hl:∀x∈args.toList,Rep c w (cb env x) (a.eval x))(hc:oR c w cs us):∀x∈(EV args cs.length).toList,Rep c w (cb (Gj (jA args.toList) cs++env) x) ((tH a (jA args.toList) us).eval x):=by
 intro x hx
 simp only[EV,List.mem_append,List.mem_map]at hx
 rcases hx with hx|⟨t,ht,rfl⟩
 ·have:=hl x hx
  cases x with
  |tmp t=>
   have cq:=SF hx
   simp only[cb,Ns,Act.eval]
   rw[dif_neg (by omega),Zi1 cq]
   exact this
  |_=>exact this
 ·rw[List.mem_range'_1]at ht
  obtain⟨i,hi,rfl⟩:∃i:Nat,i<cs.length/\t=jA args.toList+i:=⟨t-jA args.toList,Nat.sub_lt_left_of_lt_add ht.1 ht.2,(Nat.add_sub_cancel' ht.1).symm⟩
  have h2:=oR.get hc i hi
  have h3:look (Gj (jA args.toList) cs++env) (jA args.toList+i)=(cs[i]'hi).d:=by
   rw[Ns,dif_pos ⟨by omega,by omega⟩]
   congr 1
   simp
  simp only[cb,Act.eval]
  rw[h3,Zg9]
  exact Rep.KF (VRep.EW (Wm.1 h2))
theorem qat{P:Program}{f:FuncId}(he:∀args w,(callFunc f args).run P w=.ok (.enter f args) w){dst:Option Tmp}{t:Tmp}{args:Array Operand}{da:Array TypeId}{type:TypeId}{pos:String}{after:Array Edge}{guard:Option (Nat×Bool)}{a:Act}{w:World}{us:List Value}
 (ht:a.eval (.tmp t)=.func (.func f) #[] us.toArray) {K:Act->World->Prop} {Q:Exit->Act->World->Prop}
 (h:(⟨some 0,.call ⟨.value (.func f),EV args us.length,da⟩,type,pos,after,guard⟩:Oper).nk P (tH a (jA args.toList) us) w (λa' w'=>K (a.put dst (a'.tmps.getD 0 undef)) w') (λ_ _ _=>False)):
 (⟨dst,.call ⟨.value (.tmp t),args,da⟩,type,pos,after,guard⟩:Oper).nk P a w K Q:=by
 have hv:=Qz2 (a:=a) (args:=args) (us:=us)
 have r1:(execOp (tH a (jA args.toList) us).eval (⟨some 0,.call ⟨.value (.func f),EV args us.length,da⟩,type,pos,after,guard⟩:Oper)).run P w=.ok (.enter f (args.toList.map a.eval++us).toArray) w:=by
  simp only[execOp,resolve,Act.eval,Deferred.ofValue,Sem.run_bind,Sem.run_pure,Result.andThen_ok,invoke,bQ,Array.append_empty]
  rw[he,<-hv,<-bR,bS]
 have r2:(execOp a.eval (⟨dst,.call ⟨.value (.tmp t),args,da⟩,type,pos,after,guard⟩:Oper)).run P w=.ok (.enter f (args.toList.map a.eval++us).toArray) w:=by
  simp only[execOp,resolve,ht,Deferred.ofValue,Sem.run_bind,Sem.run_pure,Result.andThen_ok,invoke,bQ]
  rw[he]
  congr 2
  rw[<-List.append_toArray,<-bR,bS]
 have cq:0<(tH a (jA args.toList) us).tmps.size:=by have:=Wl (l:=args.toList);simp[tH];omega
 unfold Oper.nk at h⊢
 rw[r1]at h
 rw[r2]
 refine Calls.mono h λe w' ⟨v,he,hp⟩=>⟨v,he,?_⟩
 have:((tH a (jA args.toList) us).put (some 0) v).tmps.getD 0 undef=v:=by
  simp only[Act.put]
  simp[aP,cq]
 simp only[this]at hp
 exact hp
theorem vD{P:Program}{dst:Option Tmp}{t:Tmp}{args:Array Operand}{da:Array TypeId}{type:TypeId}{pos:String}{after:Array Edge}{guard:Option (Nat×Bool)}{a:Act}{w:World}{l:Nat}{rec:Loop}
 (ht:a.eval (.tmp t)=.func (.yield l) #[] #[]) (hl:w.heap[l]?=some (.loop rec)) {K:Act->World->Prop} {Q:Exit->Act->World->Prop} (hs:(args.toList.map a.eval).length=rec.params.size)
 (h:RoundIn Fence.wide 0 P l rec.fn ((rec.params.zip (args.toList.map a.eval).toArray).foldl (λtmps (t,a)=>tmps.setIfInBounds t a) rec.tmps) rec.assign rec.body w λe w'=>∃v,e=.returned v/\K (a.put dst v) w'):
 (⟨dst,.call ⟨.value (.tmp t),args,da⟩,type,pos,after,guard⟩:Oper).nk P a w K Q:=by
 have r2:(execOp a.eval (⟨dst,.call ⟨.value (.tmp t),args,da⟩,type,pos,after,guard⟩:Oper)).run P w=.ok (.round l rec.fn ((rec.params.zip (args.toList.map a.eval).toArray).foldl (λtmps (t,a)=>tmps.setIfInBounds t a) rec.tmps) rec.assign rec.body) w:=by
  simp only[execOp,resolve,ht,Deferred.ofValue,Sem.run_bind,Sem.run_pure,Result.andThen_ok,invoke,bQ]
  have hy:=run_yield (P:=P) (args:=(args.toList.map a.eval).toArray) hl (by simpa using hs)
  rw[<-hy,<-bR,bS]
 unfold Oper.nk
 rw[r2]
 exact h
section
variable {P:Program} {G:List bb} {M:Nat} {dst:Option Tmp} {f:FuncId} {t:Tmp} {args:Array Operand} {da:Array TypeId} {type:TypeId} {pos':String} {after:Array Edge} {guard:Option (Nat×Bool)} {env:List (Nat×D)} {cs:List iz} {R:Rows}
theorem Nt{x:bb}(dw:bj P x)(hf:x.f=f)(hy:f<YB)(ht:look env t=.gj f cs){ks:List Nat}{val:D}{R':Rows}
 (h:BX P ⟨some 0,.call ⟨.value (.func f),EV args cs.length,da⟩,type,pos',after,guard⟩ (cb (Gj (jA args.toList) cs++env)) R ks val R'):BX P ⟨dst,.call ⟨.value (.tmp t),args,da⟩,type,pos',after,guard⟩ (cb env) R ks val R':=by
 intro c w a hm hb hR eu K Q hK
 have h1:=eu (.tmp t) (by simp[Op.operands,Call.operands])
 simp only[cb,ht]at h1
 obtain⟨us,⟨_,hv⟩|⟨pQ,_⟩,hc⟩:=h1
 rotate_left
 ·exact absurd hy (Nat.not_lt.2 pQ)
 have hl:us.length=cs.length:=hc.length
 refine qat (λaz w=>by rw[<-hf];exact dw.enters (by rw[hf];exact hy) az w) hv ?_
 rw[hl]
 refine h c w _ hm hb hR (λy hy=>?_) _ _ λv w' c' hn j7 hr=>?_
 ·have fx:∀x∈args.toList,Rep c w (cb env x) (a.eval x):=λy hy=>eu y (by simp[Op.operands,Call.operands];exact .inr (by simpa using hy))
  simp only[Op.operands,Call.operands]at hy
  rcases Array.mem_append.1 hy with hy|hy
  ·simp at hy;subst hy;exact Ky _
  ·exact BW fx hc y (by simpa using hy)
 ·have cq:0<(tH a (jA args.toList) us).tmps.size:=by have:=Wl (l:=args.toList);simp[tH];omega
  have:((tH a (jA args.toList) us).put (some 0) v).tmps.getD 0 undef=v:=by
   simp only[Act.put]
   simp[aP,cq]
  show K (a.put dst (((tH a (jA args.toList) us).put (some 0) v).tmps.getD 0 undef)) w'
  rw[this]
  exact hK v w' c' hn j7 hr
theorem Zqb{K:D->Rows->Prop}(hG:j5 P G)(lW:pf G f=none)(ht:look env t=.gj f cs)(h:KG G f (args.toList.map (cb env)++cs.map iz.d) R K):∃val R',K val R'/\BX P ⟨dst,.call ⟨.value (.tmp t),args,da⟩,type,pos',after,guard⟩ (cb env) R [] val R':=by
 rw[<-Za0]at h
 obtain⟨val,R',x,h1,h2,h3,_⟩:=Wn (dst:=some 0) (da:=da) (type:=type) (pos':=pos') (after:=after) (guard:=guard) hG lW h
 obtain⟨dw,hf⟩:=Gk hG h2
 have wG:x.gone=none:=by simpa[pf,h2]using lW
 exact⟨val,R',h1,Nt dw hf (by rw[<-hf];exact dw.real wG) ht h3.toK⟩
theorem zb{k:Nat}{K:List Nat->D->Rows->Prop}(hG:j5 P G)(mZ:(bJ f YB||Nat.beq args.size 1)=true)(lW:pf G f=some k)(ht:look env t=.gj f cs)(h:Iu G M f k (args.toList.map (cb env)++cs.map iz.d) R K):∃ks val R',K ks val R'/\(∀j,cf j ks=true->M<=j)/\BX P ⟨dst,.call ⟨.value (.tmp t),args,da⟩,type,pos',after,guard⟩ (cb env) R ks val R':=by
 rw[<-Za0]at h
 by_cases hy:f<YB
 ·obtain⟨ks,val,R',x,h1,h2,h3,h4,h5⟩:=Zmk hG hy (dst:=some 0) (da:=da) (type:=type) (pos':=pos') (after:=after) (guard:=guard) lW h
  obtain⟨dw,hf⟩:=Gk hG h2
  exact⟨ks,val,R',h1,h4,Nt dw hf hy ht h5⟩
 ·obtain⟨ks,val,R',x,h1,h2,h3,h4,h5⟩:=Wo hG lW h
  refine⟨ks,val,R',h1,h4,λc w a hm hb hR eu K' Q rp=>?_⟩
  have h1:=eu (.tmp t) (by simp[Op.operands,Call.operands])
  simp only[cb,ht]at h1
  obtain⟨us,⟨cq,_⟩|⟨pQ,l,rec,hv,hI,hl,na⟩,hc⟩:=h1
  ·exact absurd cq hy
  have fx:∀x∈args.toList,Rep c w (cb env x) (a.eval x):=λy hy=>eu y (by simp[Op.operands,Call.operands];exact .inr (by simpa using hy))
  have hlen:us.length=cs.length:=hc.length
  have jc:(args.toList.map a.eval).length=1:=by
   rcases Bool.or_eq_true_iff.1 mZ with e|e
   ·exact absurd (lE e) hy
   ·simpa using bE e
  have fv:(args.toList.map a.eval).length=rec.params.size:=by
   obtain⟨_,_,y,_,hp,_,_,_,h1,_⟩:=na
   rw[hp,h1];exact jc
  exact vD hv hl fv ((h5 c w (tH a (jA args.toList) us).eval hm hb hR (λy hy=>BW fx hc y hy) (λv w'=>K' (a.put dst v) w') λv w' c'=>rp v w' c').2 (Nat.le_of_not_lt hy) l rec (args.toList.map a.eval) us (by rw[<-hlen,Qz2]) hI hl na jc)
end
def pN(P:Program)(G:List bb)(M:Nat)(o:Oper)(ev:Operand->D)(R:Rows)(ks:List Nat)(val:D)(R':Rows):Prop:=
 if su G o.op=true then(∀k,cf k ks=true->M<=k)/\BX P o ev R ks val R' else ks=[]/\pR P o ev R val R'
theorem pN.toK{P:Program}{G:List bb}{M:Nat}{o:Oper}{ev:Operand->D}{R:Rows}{ks:List Nat}{val:D}{R':Rows}(h:pN P G M o ev R ks val R'):(∀k,cf k ks=true->M<=k)/\BX P o ev R ks val R':=by
 unfold pN at h
 split at h
 ·exact h
 ·obtain⟨rfl,h⟩:=h
  exact⟨λk hk=>by simp[cf]at hk,h.toW.toK⟩
theorem BY{P:Program}{G:List bb}{M:Nat}{o:Oper}{ev:Operand->D}{R:Rows}{val:D}{R':Rows}(hw:su G o.op=false)(h:pR P o ev R val R'):pN P G M o ev R [] val R':=by
 unfold pN;rw[hw];exact⟨rfl,h⟩
theorem BZ{P:Program}{G:List bb}{M:Nat}{o:Oper}{ev:Operand->D}{R:Rows}{ks:List Nat}{val:D}{R':Rows}(hw:su G o.op=true)(hk:∀k,cf k ks=true->M<=k)(h:BX P o ev R ks val R'):pN P G M o ev R ks val R':=by
 unfold pN;rw[if_pos hw];exact⟨hk,h⟩
def nA(P:Program)(G:List bb)(M:Nat)(ops:Array Oper)(o:Oper)(env:List (Nat×D))(R:Rows)(ks:List Nat)(val:D)(R':Rows):Prop:=
 match o.guard with
 |none=>pN P G M o (cb env) R ks val R'
 |some (j,want)=>∃g,(ops[j]?).bind (·.dst)=some g/\((∃b,look env g=.bool b/\(if b=want then pN P G M o (cb env) R ks val R' else ks=[]/\val=.dt []/\R'=R))\/(look env g=.dt []/\ks=[]/\val=.dt []/\R'=R))
theorem ph{N:Nat}{st:St}{dst:Option Tmp}{d:D}{R:Rows}{K:St->Prop}(h:st.put N dst d R K):(∀t,dst=some t->t<N)/\K ⟨ss st.env dst d,R⟩:=by
 cases dst with
 |none=>exact⟨λt h=>(by cases h),h⟩
 |some t=>
  simp only[St.put,c9]at h
  refine⟨λs hs=>?_,h.2⟩
  cases hs
  exact lE h.1
theorem yb(d:D):d.kill []=d:=by
 cases d with
 |agg cs=>show D.agg (D.kD [] cs)=_;rw[Wp]
 |gj f cs=>exact Wq (.gj f cs)
 |_=>rfl
theorem Zhr:∀{ds:List D},D.pS [] ds=ds
 |[]=>rfl
 |d::l=>by simp[D.pS,yb,Zhr (ds:=l)]
theorem vb(d:D):d.gk []=d:=by
 cases d with
 |dt ds=>show D.dt (D.pS [] ds)=_;rw[Zhr]
 |agg cs=>exact yb (.agg cs)
 |gj f cs=>exact Wq (.gj f cs)
 |_=>rfl
theorem o9{env:List (Nat×D)}{t:Nat}:look (sr [] env) t=look env t:=by rw[Ca,vb]
theorem Zo4{P:Program}{T:fj}(hT:jF P T){G:List bb}(hG:j5 P G){N M:Nat}{o:Oper}{st:St}{K:St->Prop}(h:lX T G N M o st K):
 ∃ks val R' iO,(∀t,look iO t=look (sr ks st.env) t)/\(∀t,o.dst=some t->t<N)/\K ⟨ss iO o.dst val,R'⟩/\pN P G M o (cb st.env) st.rows ks val R':=by
 have plain:(su G o.op=Gl o.op)->(ik T o.op (cb st.env) st.rows λd R=>st.put N o.dst d R K)->∃ks val R' iO,(∀t,look iO t=look (sr ks st.env) t)/\(∀t,o.dst=some t->t<N)/\K ⟨ss iO o.dst val,R'⟩/\pN P G M o (cb st.env) st.rows ks val R':=by
  intro hw h
  obtain⟨val,R',hK,hO⟩:=Nu hT o _ _ _ h
  obtain⟨h1,h2⟩:=ph hK
  refine⟨[],_,_,st.env,λt=>o9.symm,h1,h2,?_⟩
  split at hO
  ·rename_i hs
   exact BZ (hw.trans hs) (λk hk=>by simp[cf]at hk) hO.toK
  ·rename_i hs
   exact BY (by rw[hw];simpa using hs) hO
 unfold lX at h
 split at h
 ·rename_i cc x y ho
  split at h
  ·rename_i b hb
   have hw:su G o.op=false:=by rw[ho];rfl
   have go:∀z,z∈o.op.operands->(∀c w (a:Act),Rep c w (cb st.env cc) (a.eval cc)->(execOp a.eval o).run P w=.ok (.value (a.eval z)) w)->(cb st.env z).force (λd=>st.put N o.dst d st.rows K)->
    ∃ks val R' iO,(∀t,look iO t=look (sr ks st.env) t)/\(∀t,o.dst=some t->t<N)/\K ⟨ss iO o.dst val,R'⟩/\pN P G M o (cb st.env) st.rows ks val R':=by
    intro z hz iu h
    rw[D.cv]at h
    obtain⟨h1,h2⟩:=ph h
    exact⟨[],_,_,st.env,λt=>o9.symm,h1,h2,BY hw (nb λc w a hm hA eu=>⟨_,iu c w a (eu cc (by rw[ho];simp[Op.operands])),eu z hz⟩)⟩
   cases b with
   |true=>
    refine go x (by rw[ho];simp[Op.operands]) (λc w a hc=>?_) h
    rw[hb]at hc
    simp only[execOp,ho,Rep.bool.1 hc,asBool,Sem.run_bind,Sem.run_pure,Result.andThen_ok,if_true]
   |false=>
    refine go y (by rw[ho];simp[Op.operands]) (λc w a hc=>?_) h
    rw[hb]at hc
    simp only[execOp,ho,Rep.bool.1 hc,asBool,Sem.run_bind,Sem.run_pure,Result.andThen_ok,aN,if_false]
  ·exact h.elim
 ·rename_i f args da ho
  obtain⟨dst,op,type,pos,after,guard⟩:=o
  simp only at ho
  subst ho
  split at h
  ·rename_i lW
   split at h
   rotate_left
   ·rename_i DW
    obtain⟨ks,val,R',x,hK,hx,hM,hO⟩:=yN (dst:=dst) (type:=type) (pos':=pos) (after:=after) (guard:=guard) (da:=da) hG lW h
    rw[Iv]at hK
    obtain⟨h1,h2⟩:=ph hK
    refine⟨ks,_,_,_,λt=>rfl,h1,h2,BZ ?_ hM hO⟩
    have DW:x.pj=true:=by simpa[Z3,hx]using DW
    cases nB:x.refs with
    |nil=>simp only[su,hx,nB,DW]
    |cons b bs=>simp only[su,hx,nB]
   rename_i DW
   have Iw:∀x,oU G f=some x->x.pj=false:=λx hx=>by simpa[Z3,hx]using DW
   obtain⟨val,R',x,hK,hx,hO,hN⟩:=Wn (dst:=dst) (type:=type) (pos':=pos) (after:=after) (guard:=guard) (da:=da) hG lW h
   obtain⟨h1,h2⟩:=ph hK
   refine⟨[],_,_,st.env,λt=>o9.symm,h1,h2,?_⟩
   cases hr:x.refs with
   |nil=>exact BY (by simp only[su,hx,hr,Iw x hx]) (hN hr)
   |cons b bs=>exact BZ (by simp only[su,hx,hr]) (λk hk=>by simp[cf]at hk) hO.toK
  ·rename_i k lW
   obtain⟨hy,h⟩:=c9.1 h
   obtain⟨ks,val,R',x,hK,hx,hr,hM,hO⟩:=Zmk hG (lE hy) (dst:=dst) (type:=type) (pos':=pos) (after:=after) (guard:=guard) (da:=da) lW h
   rw[Iv]at hK
   obtain⟨h1,h2⟩:=ph hK
   refine⟨ks,_,_,_,λt=>rfl,h1,h2,BZ ?_ hM hO⟩
   cases nB:x.refs with
   |nil=>exact(hr nB).elim
   |cons b bs=>simp only[su,hx,nB]
 ·rename_i t args da ho
  obtain⟨dst,op,type,pos,after,guard⟩:=o
  simp only at ho
  subst ho
  split at h
  ·rename_i f cs ht
   split at h
   ·rename_i lW
    split at h
    ·obtain⟨val,R',hK,hO⟩:=Zqb (dst:=dst) (type:=type) (pos':=pos) (after:=after) (guard:=guard) (da:=da) hG lW ht h
     obtain⟨h1,h2⟩:=ph hK
     exact⟨[],_,_,st.env,λt=>o9.symm,h1,h2,BZ rfl (λk hk=>by simp[cf]at hk) hO⟩
    ·exact h.elim
   ·rename_i k lW
    obtain⟨mZ,h⟩:=c9.1 h
    obtain⟨ks,val,R',hK,hM,hO⟩:=zb (dst:=dst) (type:=type) (pos':=pos) (after:=after) (guard:=guard) (da:=da) hG mZ lW ht h
    rw[Iv]at hK
    obtain⟨h1,h2⟩:=ph hK
    exact⟨ks,_,_,_,λt=>rfl,h1,h2,BZ rfl hM hO⟩
  ·exact h.elim
 ·rename_i args da ho
  obtain⟨dst,op,type,pos,after,guard⟩:=o
  simp only at ho
  subst ho
  split at h
  ·rename_i x y t tx hx ht
   have fx:args= #[x,y]:=by rw[<-bS (xs:=args),hx]
   have uv:da= #[t,tx]:=by rw[<-bS (xs:=da),ht]
   subst fx;subst uv
   obtain⟨ks,R',hK,hM,hr⟩:=Znp (ty:=type) hT h
   rw[Iv]at hK
   obtain⟨h1,h2⟩:=ph hK
   refine⟨ks,_,_,_,λt=>rfl,h1,h2,BZ rfl hM λc w a hm hb hR eu K' Q rp=>?_⟩
   obtain⟨v',w',c',iu,hn,j7,hv⟩:=hr c w _ _ hm hb hR (eu x (by simp[Op.operands,Call.operands])) (eu y (by simp[Op.operands,Call.operands]))
   refine Gm ?_ (rp v' w' c' hn j7 hv)
   simp only[execOp,resolve,Sem.run_bind,Sem.run_pure,Result.andThen_ok,invoke,builtin]
   have:(#[x,y]:Array Operand).map a.eval= #[a.eval x,a.eval y]:=by simp
   rw[this,iu];rfl
  ·exact h.elim
 ·rename_i args da ho
  obtain⟨dst,op,type,pos,after,guard⟩:=o
  simp only at ho
  subst ho
  split at h
  ·rename_i x y t tx hx ht
   have fx:args= #[x,y]:=by rw[<-bS (xs:=args),hx]
   have uv:da= #[t,tx]:=by rw[<-bS (xs:=da),ht]
   subst fx;subst uv
   obtain⟨val,R',hK,hr⟩:=ya (ty:=type) hT h
   obtain⟨h1,h2⟩:=ph hK
   refine⟨[],_,_,st.env,λt=>o9.symm,h1,h2,BZ rfl (λk hk=>by simp[cf]at hk) (EY.toK λc w a hm hb hR eu K' Q rp=>?_)⟩
   obtain⟨v',w',c',iu,hn,j7,hv⟩:=hr c w _ _ hm hR (eu x (by simp[Op.operands,Call.operands])) (eu y (by simp[Op.operands,Call.operands]))
   refine Gm ?_ (rp v' w' c' hn j7 hv)
   simp only[execOp,resolve,Sem.run_bind,Sem.run_pure,Result.andThen_ok,invoke,builtin]
   have:(#[x,y]:Array Operand).map a.eval= #[a.eval x,a.eval y]:=by simp
   rw[this,iu];rfl
  ·exact h.elim
 ·rename_i args da ho
  split at h
  ·rename_i x y hx
   obtain⟨val,hK,hr⟩:=Zmb h
   obtain⟨h1,h2⟩:=ph hK
   refine⟨[],_,_,st.env,λt=>o9.symm,h1,h2,BY (by rw[ho];rfl) (nb λc w a hm hA eu=>?_)⟩
   have fx:args= #[x,y]:=by rw[<-bS (xs:=args),hx]
   subst fx
   obtain⟨u,hu,hv⟩:=hr P c w _ _ (eu x (by rw[ho];simp[Op.operands,Call.operands])) (eu y (by rw[ho];simp[Op.operands,Call.operands]))
   refine⟨u,?_,hv⟩
   simp only[execOp,ho,resolve,Sem.run_bind,Sem.run_pure,Result.andThen_ok,invoke,builtin]
   have:(#[x,y]:Array Operand).map a.eval= #[a.eval x,a.eval y]:=by simp
   rw[this]
   have hu:=hu.1 rfl da o.type
   rw[hu];rfl
  ·exact h.elim
 ·rename_i args da ho
  split at h
  ·rename_i x y hx
   obtain⟨val,hK,hr⟩:=Zmb h
   obtain⟨h1,h2⟩:=ph hK
   refine⟨[],_,_,st.env,λt=>o9.symm,h1,h2,BY (by rw[ho];rfl) (nb λc w a hm hA eu=>?_)⟩
   have fx:args= #[x,y]:=by rw[<-bS (xs:=args),hx]
   subst fx
   obtain⟨u,hu,hv⟩:=hr P c w _ _ (eu x (by rw[ho];simp[Op.operands,Call.operands])) (eu y (by rw[ho];simp[Op.operands,Call.operands]))
   refine⟨u,?_,hv⟩
   simp only[execOp,ho,resolve,Sem.run_bind,Sem.run_pure,Result.andThen_ok,invoke,builtin]
   have:(#[x,y]:Array Operand).map a.eval= #[a.eval x,a.eval y]:=by simp
   rw[this]
   have hu:=hu.2 rfl da o.type
   rw[hu];rfl
  ·exact h.elim
 ·rename_i s d x ho
  split at h
  ·rename_i e _ _ _ _ _ _ hs
   obtain⟨val,hK,hr⟩:=yD hT hs h
   obtain⟨h1,h2⟩:=ph hK
   refine⟨[],_,_,st.env,λt=>o9.symm,h1,h2,BY (by rw[ho];rfl) (nb λc w a hm hA eu=>?_)⟩
   obtain⟨u,hu,hv⟩:=hr c w _ hm hA (eu x (by rw[ho];simp[Op.operands]))
   refine⟨u,?_,hv⟩
   simp only[execOp,ho]
   rw[Sem.run_bind,hu];rfl
  ·rw[<-ho]at h
   exact plain (by rw[ho];rfl) h
 ·rename_i op t x y ty ho
  split at h
  ·rename_i s es fr hx hy
   obtain⟨hK,hr⟩:=zD hT h
   obtain⟨h1,h2⟩:=ph hK
   refine⟨[],_,_,st.env,λt=>o9.symm,h1,h2,BY (by rw[ho];rfl) (nb λc w a hm hA eu=>?_)⟩
   have q1:=eu x (by rw[ho];simp[Op.operands])
   have q2:=eu y (by rw[ho];simp[Op.operands])
   rw[hx]at q1;rw[hy]at q2
   obtain⟨u,hu,hv⟩:=hr s fr c w _ _ q1 q2
   refine⟨u,?_,hv⟩
   simp only[execOp,ho]
   rw[Sem.run_bind,hu x y];rfl
  ·rw[<-ho]at h
   exact plain (by rw[ho];rfl) h
 ·rename_i op n1 n2 n9 n3 n4 n5 n6 n7 n8
  refine plain ?_ h
  unfold su
  split
  ·rename_i rW;rw[rW];rfl
  ·rename_i rW;exact(n2 _ _ _ rW).elim
  ·rename_i rW;exact(n9 _ _ _ rW).elim
  ·rename_i rW;exact(n3 _ _ rW).elim
  ·rename_i rW;exact(n4 _ _ rW).elim
  ·rename_i m1 m2 m5 m3 m4
   cases rW:o.op<;>first|rfl|exact(m1 _ _ _ rW).elim
theorem SH{st:St}{g:Nat}{b:Bool}(h:look st.env g=.bool b)(t:Nat):look (st.kK (.tmp g) b).env t=look st.env t:=by
 simp only[St.kK,Bp]
 split
 ·rename_i e;subst e;exact h.symm
 ·rfl
theorem Zpe{env mu:List (Nat×D)}(h:∀t,look mu t=look env t):cb mu=cb env:=by
 funext x;cases x<;>first|exact h _|rfl
theorem V0{P:Program}{T:fj}(hT:jF P T){G:List bb}(hG:j5 P G){N M:Nat}{ops:Array Oper}{o:Oper}{l:List Oper}{st:St}{K:St->Prop}(h:mf T G N M ops (o::l) st K):
 ∃ks val R' iO,(∀t,look iO t=look (sr ks st.env) t)/\(∀t,o.dst=some t->t<N)/\nA P G M ops o st.env st.rows ks val R'/\mf T G N M ops l ⟨ss iO o.dst val,R'⟩ K:=by
 simp only[mf]at h
 split at h
 ·rename_i hg
  obtain⟨ks,val,R',iO,h0,h1,h2,h3⟩:=Zo4 hT hG h
  exact⟨ks,val,R',iO,h0,h1,by unfold nA;rw[hg];exact h3,h2⟩
 ·rename_i j want hg
  split at h
  ·rename_i g hd
   split at h
   ·rename_i b hb
    have yes:∀b',b'=b->lX T G N M o (st.kK (.tmp g) b') (λst=>mf T G N M ops l st K)->b=want->∃ks val R' iO,(∀t,look iO t=look (sr ks st.env) t)/\(∀t,o.dst=some t->t<N)/\nA P G M ops o st.env st.rows ks val R'/\mf T G N M ops l ⟨ss iO o.dst val,R'⟩ K:=by
     intro b' e hh hw
     subst e
     obtain⟨ks,val,R',iO,h0,h1,h2,h3⟩:=Zo4 hT hG hh
     rw[Zpe (SH hb)]at h3
     refine⟨ks,val,R',iO,λt=>by rw[h0,Ca,Ca,SH hb],h1,?_,h2⟩
     unfold nA;rw[hg]
     exact⟨g,hd,.inl ⟨_,hb,by rw[if_pos hw];exact h3⟩⟩
    have no:∀b',b'=b->(st.kK (.tmp g) b').put N o.dst (.dt []) st.rows (λst=>mf T G N M ops l st K)->b≠want->∃ks val R' iO,(∀t,look iO t=look (sr ks st.env) t)/\(∀t,o.dst=some t->t<N)/\nA P G M ops o st.env st.rows ks val R'/\mf T G N M ops l ⟨ss iO o.dst val,R'⟩ K:=by
     intro b' e hh hw
     subst e
     obtain⟨h1,h2⟩:=ph hh
     refine⟨[],_,_,_,λt=>by rw[o9,SH hb],h1,?_,h2⟩
     unfold nA;rw[hg]
     exact⟨g,hd,.inl ⟨_,hb,by rw[if_neg hw];exact⟨rfl,rfl,rfl⟩⟩⟩
    cases b<;>cases want<;>simp only[DX]at h
    ·exact yes _ rfl h rfl
    ·exact no _ rfl h (by simp)
    ·exact no _ rfl h (by simp)
    ·exact yes _ rfl h rfl
   ·rename_i hb
    obtain⟨h1,h2⟩:=ph h
    refine⟨[],_,_,st.env,λt=>o9.symm,h1,?_,h2⟩
    unfold nA;rw[hg]
    exact⟨g,hd,.inr ⟨hb,rfl,rfl,rfl⟩⟩
   ·exact h.elim
  ·exact h.elim
theorem Sx{ops:Array Oper}{o:Oper}{c:Ctx}{w:World}{a:Act}{j g:Nat}{want:Bool}(hg:o.guard=some (j,want))(hd:(ops[j]?).bind (·.dst)=some g)(h:Rep c w (.dt []) (a.tmps.getD g undef)):
 Region.wanted o (yielded ops a.tmps)=false:=by
 obtain⟨vs,hv,Cb⟩:=h
 have hy:yielded ops a.tmps j=none:=by
  simp only[yielded,hd,aL]
  cases hx:a.tmps[g]? with
  |none=>rfl
  |some v=>
   have:a.tmps.getD g undef=v:=by simp[hx]
   rw[this]at hv
   rw[hv]
 unfold Region.wanted
 rw[hg]
 simp only[hy]
 rfl
theorem Sw(c:Ctx)(w:World):Rep c w (.dt []) undef:=⟨[],rfl,trivial⟩
theorem Sy{ops:Array Oper}{o:Oper}{c:Ctx}{w:World}{a:Act}{j g:Nat}{want b:Bool}(hg:o.guard=some (j,want))(hd:(ops[j]?).bind (·.dst)=some g)(h:Rep c w (.bool b) (a.tmps.getD g undef)):
 Region.wanted o (yielded ops a.tmps)=decide (b=want):=by
 have hv:=Rep.bool.1 h
 have ht:a.tmps[g]?=some (.bool b):=by
  cases hx:a.tmps[g]? with
  |none=>simp[hx,undef]at hv
  |some v=>simp[hx]at hv;rw[hv]
 unfold Region.wanted
 simp only[hg,yielded,hd,aL,ht]
 cases b<;>cases want<;>rfl
def wpOp(P:Program)(ops:Array Oper)(Q:Exit->Act->World->Prop)(i:Nat)(K:Act->World->Prop)(a:Act)(w:World):Prop:=
 match ops[i]? with
 |none=>K a w
 |some o=>if Region.wanted o (yielded ops a.tmps)then o.nk P a w K Q else K (a.put o.dst undef) w
def KH(P:Program)(ops:Array Oper)(Q:Exit->Act->World->Prop):List Nat->Act->World->Prop
 |[],a,w=>Q .normal a w
 |i::rest,a,w=>wpOp P ops Q i (KH P ops Q rest) a w
theorem Z9a{P:Program}{ops:Array Oper}{Q:Exit->Act->World->Prop}(i:Nat)(rest:List Nat)(a:Act)(w:World):KH P ops Q (i::rest) a w=wpOp P ops Q i (KH P ops Q rest) a w:=rfl
def Zl(P:Program)(md:Region.Mode)(ops:Array Oper)(Q:Exit->Act->World->Prop):Nat->Array Bool->Act->World->Prop
 |0,listed,a,w=>Region.ready md ops listed=[]/\Q .normal a w
 |fuel+1,listed,a,w=>
  (Region.ready md ops listed=[]->Q .normal a w)/\
  ∀i∈Region.ready md ops listed,wpOp P ops Q i (Zl P md ops Q fuel (listed.setIfInBounds i true)) a w
abbrev Bs(ro:Option Nat):Fence:={Fence.wide with round:=ro}
theorem xT{P:Program}{ro:Option Nat}{o:Oper}{a:Act}{w:World}{K:Act->World->Prop}{Q Q':Exit->Act->World->Prop}(h:o.nk P a w K Q):o.wpIn (Bs ro) 0 P a w K Q':=by
 refine⟨λ_ _=>trivial,?_⟩
 have hd:∀c,o.op≠.defer c:=by
  intro c hc
  unfold Oper.nk at h
  simp only[execOp,hc,Sem.run_bind]at h
  revert h
  cases(resolve a.eval c o.type).run P w with
  |halt _ _=>exactλh=>h
  |ok d w'=>exactλh=>h
 rw[Oper.semAt_eq _ _ _ hd]
 unfold Oper.nk at h
 revert h
 generalize(execOp a.eval o).run P w=r
 intro h
 cases r with
 |halt _ _=>exact h.elim
 |ok n w'=>
  cases n with
  |value v=>exact h
  |skip=>exact h
  |enter f args=>
   refine⟨λe=>(by cases e),?_⟩
   refine CallsIn.mono (F:=Fence.wide) (callsIn_wide.2 h) λe w' ⟨v,he,hk⟩=>?_
   subst he;exact hk
  |round l f tmps assign body=>
   refine⟨λe=>(by cases e),?_⟩
   refine RoundIn.mono (F:=Fence.wide) h λe w' ⟨v,he,hk⟩=>?_
   subst he;exact hk
  |_=>exact h.elim
theorem SI{P:Program}{ro:Option Nat}{ops:Array Oper}{Q:Exit->Act->World->Prop}:∀{l:List Nat} {a:Act} {w:World},KH P ops Q l a w->wpOpsIn (Bs ro) 0 P ops Q l a w
 |[],_,_,h=>h
 |i ::l,a,w,h=>by
  rw[Z9a]at h
  unfold wpOp at h
  unfold wpOpsIn
  split
  ·rename_i ho;simp only[ho]at h;exact SI h
  ·rename_i o ho
   simp only[ho]at h
   split
   ·rename_i hw;rw[if_pos hw]at h;exact xT (Q:=Q) (Wr (Q':=Q) (λa w h=>SI h) h)
   ·rename_i hw;rw[if_neg hw]at h;exact⟨λ_ _=>trivial,SI h⟩
theorem SJ{P:Program}{ro:Option Nat}{md:Region.Mode}{ops:Array Oper}{Q:Exit->Act->World->Prop}:∀{n:Nat} {listed:Array Bool} {a:Act} {w:World},Zl P md ops Q n listed a w->wpAnyIn (Bs ro) 0 P md ops Q n listed a w
 |0,_,_,_,h=>h
 |n +1,listed,a,w,h=>by
  refine⟨h.1,λi hi=>?_⟩
  have h:=h.2 i hi
  unfold wpOp at h
  unfold wpOpIn
  split
  ·rename_i ho;simp only[ho]at h;exact SJ h
  ·rename_i o ho
   simp only[ho]at h
   split
   ·rename_i hw;rw[if_pos hw]at h;exact xT (Q:=Q) (Wr (Q':=Q) (λa w h=>SJ h) h)
   ·rename_i hw;rw[if_neg hw]at h;exact⟨λ_ _=>trivial,SJ h⟩
theorem Zfr{P:Program}{ro:Option Nat}{id:Nat}{ops:Array Oper}{Q:Exit->Act->World->Prop}{a:Act}{w:World}(h:KH P ops Q (List.range ops.size) a w):(Code.region id ops false).wpIn (Bs ro) 0 P Q a w:=wpIn_region (SI h)
theorem Qw1{P:Program}{ro:Option Nat}{ops:Array Oper}{Q:Exit->Act->World->Prop}{id:Nat}{a:Act}{w:World}(hm:P.follows .mixedOrders=true)
 (h:Zl P .any ops Q ops.size (Array.replicate ops.size false) a {w with drawn:=w.drawn+1}):(Code.region id ops true).wpIn (Bs ro) 0 P Q a w:=wpIn_region_any hm (SJ h)
theorem zT{P:Program}{G:List bb}{ops:Array Oper}{N M:Nat}{c0:Ctx}{w0:World}{c:Ctx}{w:World}{st:St}{a:Act}{i:Nat}{o:Oper}{ks:List Nat}{val:D}{R':Rows}{iO:List (Nat×D)}(hi:ops[i]?=some o)
 (hs:ft N M c0 w0 c w st a) (h1:∀t,look iO t=look (sr ks st.env) t) (hd:∀t,o.dst=some t->t<N) (hG:nA P G M ops o st.env st.rows ks val R') {K:Act->World->Prop} {Q:Exit->Act->World->Prop}
 (hK:∀a' w' c',ft N M c0 w0 c' w' ⟨ss iO o.dst val,R'⟩ a'->K a' w'):wpOp P ops Q i K a w:=by
 have fin:(∀k,cf k ks=true->M<=k)->∀(v:Value) (w':World) (c':Ctx),jM ks c w c' w'->(∀r,c'.R r=R'.getD r none)->Rep c' w' val v->K (a.put o.dst v) w':=λhM v w' c' hn hR hv=>by
  refine hK _ _ c' ⟨hn.mem,hR,?_,?_,?_,hs.gb,hs.gq,hs.reach.step hM hs.gq hn⟩
  ·exact Z95 hs.size hd (λt=>by rw[h1,Ca];exact Ao hn.cj (Ws (hs.env t))) hv
  ·cases ho:o.dst<;>simp[Act.put]<;>exact hs.size
  ·exact mg.put (hs.defers.step hs.mem hn.fr)
 have run:pN P G M o (cb st.env) st.rows ks val R'->o.nk P a w K Q:=λhX=>hX.toK.2 c w a hs.mem hs.base hs.rows (λx _=>Nr hs.env x) K Q (fin hX.toK.1)
 have skip:ks=[]->val=.dt []->R'=st.rows->K (a.put o.dst undef) w:=λe0 e1 e2=>by
  refine hK _ _ c ⟨hs.mem,by rw[e2];exact hs.rows,?_,?_,?_,hs.gb,hs.gq,hs.reach⟩
  ·exact Z95 hs.size hd (λt=>by rw[h1,e0,o9];exact hs.env t) (by rw[e1];exact Sw _ _)
  ·cases ho:o.dst<;>simp[Act.put]<;>exact hs.size
  ·exact mg.put hs.defers
 unfold wpOp
 simp only[hi]
 unfold nA at hG
 cases hg:o.guard with
 |none=>
  simp only[hg]at hG
  have hw:Region.wanted o (yielded ops a.tmps)=true:=by simp[Region.wanted,hg]
  rw[if_pos hw]
  exact run hG
 |some jw=>
  obtain⟨j,want⟩:=jw
  simp only[hg]at hG
  obtain⟨g,h2,⟨b,h3,h4⟩|⟨h3,e0,e1,e2⟩⟩:=hG
  rotate_left
  ·have hr:=hs.env g
   rw[h3]at hr
   rw[if_neg (by rw[Sx (o:=o) hg h2 hr];simp)]
   exact skip e0 e1 e2
  have hr:=hs.env g
  rw[h3]at hr
  have hw:=Sy (o:=o) hg h2 hr
  by_cases e:b=want
  ·rw[if_pos e]at h4
   rw[if_pos (by rw[hw];simpa using e)]
   exact run h4
  ·rw[if_neg e]at h4
   rw[if_neg (by rw[hw];simpa using e)]
   exact skip h4.1 h4.2.1 h4.2.2
theorem yT{P:Program}{T:fj}(hT:jF P T){G:List bb}(hG:j5 P G){N M:Nat}{ops:Array Oper}{c0:Ctx}{w0:World}{K:St->Prop}{Q:Exit->Act->World->Prop}(hQ:∀st c w a,K st->ft N M c0 w0 c w st a->Q .normal a w):
 ∀(l:List Oper) (k:Nat) (st:St) (c:Ctx) (w:World) (a:Act),ops.toList.drop k=l->mf T G N M ops l st K->ft N M c0 w0 c w st a->KH P ops Q (bK k l.length) a w
 |[],k,st,c,w,a,_,h,hs=>hQ st c w a h hs
 |o ::l,k,st,c,w,a,hk,h,hs=>by
  have cq:k<ops.toList.length:=by
   by_cases cq:k<ops.toList.length
   ·exact cq
   ·rw[List.drop_eq_nil_of_le (by omega)]at hk;cases hk
  rw[List.drop_eq_getElem_cons cq]at hk
  have ho:ops[k]?=some o:=by
   have:=(List.cons.inj hk).1
   rw[<-this]
   simp at cq
   simp[cq]
  obtain⟨ks,val,R',iO,h1,h2,h3,h4⟩:=V0 hT hG h
  simp only[List.length_cons,List.range'_succ]
  rw[Z9a]
  exact zT ho hs h1 h2 h3 λa' w' c' jn=>yT hT hG hQ l (k+1) _ c' w' a' (List.cons.inj hk).2 h4 jn
def mX:Exit->Option Ex
 |.normal=>some .normal
 |.exit i=>some (.exit i)
 |.ret=>some .ret
 |_=>none
def ub(ro:Option Nat)(P:Program)(N M:Nat)(code:Code)(st:St)(Q:Ex->St->Prop):Prop:=
 ∀ (c0:Ctx) (w0:World) (c:Ctx) (w:World) (a:Act),ft N M c0 w0 c w st a->
  code.wpIn (Bs ro) 0 P (λe a' w'=>∃ex jC c',mX e=some ex/\Q ex jC/\ft N M c0 w0 c' w' jC a') a w
abbrev Tr:=ub none
def Ctx.pj(c:Ctx)(R:Rows)(ks:List Nat):Ctx:=
 {c with R:=λr=>if cf r ks=true then none else(c.R r).map (Row.mv R ks),I:=λb=>c.I b\/∃r row,cf r ks=true/\c.R r=some row/\¬c.V r/\c.ρ r=b}
section
variable {c:Ctx} {w:World} {R:Rows} {ks:List Nat}
theorem Zem(R:Rows)(ks:List Nat)(row:Row):(row.mv R ks).box=row.box/\(row.mv R ks).ty=row.ty/\(row.mv R ks).sz=row.sz/\(row.mv R ks).es.l.length=row.es.l.length:=by
 unfold Row.mv;split<;>exact⟨rfl,rfl,rfl,rfl⟩
theorem Z40:∀{e:List D},(D.sG R ks e).length=e.length
 |[]=>rfl
 |d::l=>by simp[D.sG,Z40 (e:=l)]
theorem Zfo:jq (c.kill ks) w (c.pj R ks) w:=by
 refine⟨rfl,aO _,λb h=>⟨.inl h,rfl⟩,λr x hx=>?_⟩
 obtain⟨h1,row,h2,rfl⟩:=om hx
 obtain⟨s1,s2,s3,s4⟩:=Zem R ks row
 obtain⟨k1,k2,k3,k4⟩:=wF ks row
 refine⟨row.mv R ks,?_,s1.trans k1.symm,s2.trans k2.symm,s3.trans k3.symm,s4.trans k4.symm,rfl,Iff.rfl,λ_ arr h=>⟨arr,h,rfl⟩⟩
 show(if cf r ks=true then none else(c.R r).map (Row.mv R ks))=_
 rw[h1,h2];rfl
theorem Qz7:∀{ds:List D} {arr:Array Value} {off:Nat},ds.all D.plain=true->kU c w ds arr off->nT c.I w ds arr off
 |[],_,_,_,_=>BU.2 trivial
 |d::ds,arr,off,hp,⟨⟨v,hv,h1⟩,h2⟩=>by
  rw[List.all_cons,aE]at hp
  exact Aw.2 ⟨⟨v,hv,cz.plain hp.1 h1⟩,Qz7 hp.2 h2⟩
variable (hm:Mem c w) (hA:∀r,c.R r=R.getD r none)
include hm hA
theorem Wt{d:D}{v:Value}(h:cz c w d v):cz (c.pj R ks) w (d.Cc R ks) v:=by
 have Ix:∀{d:D},cz c w d v->cz (c.pj R ks) w (d.eh ks) v:=λh=>Nv Zfo (SK h)
 cases d with
 |all r=>
  simp only[D.Cc]
  cases hb:cf r ks with
  |false=>
   have:=Ix h
   simpa only[D.eh,hb]using this
  |true=>
   obtain⟨row,g1,g2,hv⟩:=h
   have hr:R.getD r none=some row:=by rw[<-hA r];exact g1
   obtain⟨box,ty,sz,es⟩:=row
   simp only at g2
   subst g2
   simp only[hr]
   rcases hv with⟨hV,a,hv,_⟩|⟨hV,cap,arr,hv,g3,g4,g5,g6⟩
   ·have he:=(hm.oi g1 hV).2.1
    simp only at he
    exact⟨a,0,by rw[he];exact hv,by rw[he];exact aO _,.inl he⟩
   ·obtain⟨iS,jJ,hs,hx⟩:=hm.real g1 hV
    simp only at g5 jJ hx
    rw[g5]at jJ;cases jJ
    simp only[aN,if_false]at hx
    exact⟨_,cap,hv,g3,.inr ⟨_,0,arr,_,_,rfl,.inr ⟨r,_,hb,g1,hV,rfl⟩,by simp,g5,oh (λb hb=>⟨.inl hb,rfl⟩) _ _ _ _ hx⟩⟩
 |ptr r i off=>
  simp only[D.Cc]
  cases hb:cf r ks with
  |false=>
   have:=Ix h
   simpa only[D.eh,hb]using this
  |true=>
   obtain⟨row,g1,g2,g3,hv⟩:=h
   have hr:R.getD r none=some row:=by rw[<-hA r];exact g1
   simp only
   split
   ·rename_i ty sz e he
    rw[he]at hr;cases hr
    split
    ·rename_i hp
     obtain⟨arr,ha,hs,hx⟩:=hm.real g1 g2
     simp only[if_true]at hx
     obtain⟨e',k1,k2,k3,k4⟩:=hx
     have k1:[e]=[e']:=by injection k1
     have k1:e=e':=(List.cons.inj k1).1
     subst k1
     refine⟨c.ρ r,0,arr,ty,(0,0),?_,.inr ⟨r,_,hb,g1,g2,rfl⟩,g3,ha,oq.2 ⟨k2,Zkw (λb hb=>⟨.inl hb,rfl⟩) _ _ _ (Qz7 hp k4),pT.2 trivial⟩⟩
     rw[hv];simp
    ·rw[hv];rfl
   ·rw[hv];rfl
 |_=>exact Ix h
theorem Zn8:∀{ds:List D} {vs:List Value},jt c w ds vs->jt (c.pj R ks) w (D.sG R ks ds) vs
 |[],[],_=>trivial
 |_::_,_::_,h=>⟨Wt hm hA h.1,Zn8 h.2⟩
 |[],_::_,h=>h.elim
 |_::_,[],h=>h.elim
theorem Zmw{d:D}{v:Value}(h:VRep c w d v):VRep (c.pj R ks) w (d.Iy R ks) v:=by
 cases d with
 |agg cs=>obtain⟨vs,hv,hr⟩:=h;exact⟨vs,hv,Zn8 hm hA hr⟩
 |_=>
  have:=Wt (ks:=ks) hm hA (VRep.toC (λcs e=>by cases e) h)
  exact VRep.EW this
theorem Zma:∀{ds:List D} {vs:List Value},kr c w ds vs->kr (c.pj R ks) w (D.Iz R ks ds) vs
 |[],[],_=>trivial
 |_::_,_::_,h=>⟨Zmw hm hA h.1,Zma h.2⟩
 |[],_::_,h=>h.elim
 |_::_,[],h=>h.elim
theorem qE{d:D}{v:Value}(h:Rep c w d v):Rep (c.pj R ks) w (d.Cd R ks) v:=by
 cases d with
 |dt ds=>obtain⟨vs,hv,hr⟩:=h;exact⟨vs,hv,Zma hm hA hr⟩
 |dead=>trivial
 |_=>
  have:=Zmw (ks:=ks) hm hA (Rep.toV (λds e=>by cases e) (λe=>by cases e) h)
  exact Rep.KF this
theorem Zhg:∀{ds:List D} {arr:Array Value} {off:Nat},kU c w ds arr off->kU (c.pj R ks) w (D.sG R ks ds) arr off
 |[],_,_,_=>trivial
 |_::_,_,_,⟨⟨v,hv,h1⟩,h2⟩=>⟨⟨v,hv,Wt hm hA h1⟩,Zhg h2⟩
theorem y0{r:Nat}{row:Row}(h:EZ c w r row):EZ (c.pj R ks) w r (row.mv R ks):=by
 obtain⟨s1,s2,s3,s4⟩:=Zem R ks row
 rcases h with⟨h0,h1,h2,h3⟩|⟨h0,arr,ha,hs,hx⟩
 ·refine .inl ⟨h0,s1.trans h1,?_,by rw[s3];exact h3⟩
  rw[h2]at s4;exact List.eq_nil_of_length_eq_zero s4
 ·refine .inr ⟨h0,arr,by rw[s2];exact ha,by rw[s3];exact hs,?_⟩
  rw[s1,s3]
  split
  ·rename_i hb
   simp only[hb,if_true]at hx
   obtain⟨e,k1,k2,k3,k4⟩:=hx
   obtain⟨box,ty,sz,es⟩:=row
   simp only at hb k1 k2 k3 k4
   subst hb;subst k1
   exact⟨D.sG R ks e,rfl,by rw[Z40];exact k2,k3,Zhg hm hA k4⟩
  ·rename_i hb
   simp only[hb,aN,if_false]at hx
   have he:(row.mv R ks).es=row.es:=by
    unfold Row.mv
    split
    ·simp at hb
    ·rfl
   rw[he];exact oh (λb hb=>⟨.inl hb,rfl⟩) _ _ _ _ hx
omit hm hA in
theorem KI{r:Nat}{x:Row}(h:(c.pj R ks).R r=some x):cf r ks=false/\∃row,c.R r=some row/\x=row.mv R ks:=by
 simp only[Ctx.pj]at h
 cases hb:cf r ks with
 |true=>rw[hb]at h;simp at h
 |false=>
  rw[hb]at h
  simp only[aN,if_false,Option.map_eq_some_iff]at h
  obtain⟨row,h1,h2⟩:=h
  exact⟨rfl,row,h1,h2.symm⟩
theorem y3:Mem (c.pj R ks) w:=by
 refine⟨λr x hx=>?_,λr s x y hx hy v1 v2 he=>?_,λb hb=>?_,hm.top,hm.kX.mono λb hb=>⟨.inl hb,rfl⟩⟩
 ·obtain⟨_,row,h1,rfl⟩:=KI hx
  exact y0 hm hA (hm.row r row h1)
 ·obtain⟨_,row,h1,_⟩:=KI hx
  obtain⟨_,aq,h2,_⟩:=KI hy
  exact hm.inj r s row aq h1 h2 v1 v2 he
 ·rcases hb with hb|⟨s,row,h1,h2,h3,rfl⟩
  ·refine⟨(hm.fk b hb).1,λr x hx v=>?_⟩
   obtain⟨_,row,h1,_⟩:=KI hx
   exact(hm.fk b hb).2 r row h1 v
  ·refine⟨hm.lt h2 h3,λr x hx v e=>?_⟩
   obtain⟨h4,aq,h5,_⟩:=KI hx
   have:=hm.inj r s aq row h5 h2 v h3 e
   rw[this,h1]at h4;cases h4
end
theorem Z88{R0:Rows}{ks:List Nat}:∀{R:Rows} {i r:Nat},(KJ R0 ks R i).getD r none=if cf (i+r) ks=true then none else(R.getD r none).map (Row.mv R0 ks)
 |[],i,r=>by simp[KJ]
 |x::l,i,0=>by
  simp only[KJ,bG]
  cases cf i ks<;>cases x<;>simp
 |x::l,i,r+1=>by
  have:=Z88 (R0:=R0) (ks:=ks) (R:=l) (i:=i+1) (r:=r)
  rw[show i+1+r=i+(r+1) by omega]at this
  simpa[KJ]using this
def uw(R:Rows)(ks:List Nat)(env:List (Nat×D)):List (Nat×D):=env.map λx=>(x.1,x.2.Cd R ks)
theorem Zmv{R:Rows}{ks:List Nat}:∀{env:List (Nat×D)} {K:List (Nat×D)->Prop},Fa R ks env K↔K (uw R ks env)
 |[],_=>Iff.rfl
 |(t,d)::l,K=>by
  simp only[Fa,D.cv]
  rw[Zmv (env:=l) (K:=λl=>K ((t,d.Cd R ks)::l))]
  rfl
theorem Zn9{R:Rows}{ks:List Nat}:∀{env:List (Nat×D)} {t:Nat},look (uw R ks env) t=(look env t).Cd R ks
 |[],_=>rfl
 |(u,d)::l,t=>by
  simp only[uw,List.map_cons,look]
  split
  ·rfl
  ·exact Zn9 (env:=l)
theorem Wu{M:Nat}{R:Rows}:∀{l:List Nat} {r:Nat},r∈uy M R l->M<=r
 |x ::l,r,h=>by
  simp only[uy]at h
  split at h
  ·rename_i hb
   rcases List.mem_cons.1 h with e|h
   ·rw[e];rw[aE]at hb;exact lE hb.1
   ·exact Wu h
  ·exact Wu h
theorem y4{N M:Nat}{c0:Ctx}{w0:World}{c:Ctx}{w:World}{st:St}{a:Act}{T:fj}{G:List bb}{ops:Array Oper}{K:St->Prop}(h:IA T G M ops st K)(hs:ft N M c0 w0 c w st a):∃jC c',K jC/\ft N M c0 w0 c' w jC a:=by
 unfold IA at h
 split at h
 ·exact⟨st,c,h,hs⟩
 ·rename_i ks hk
  have hM:∀k,cf k (uy M st.rows (SL T G st.env st.rows [] [] ops.toList))=true->M<=k:=λk hk=>Wu (ot.1 hk)
  generalize uy M st.rows (SL T G st.env st.rows [] [] ops.toList)=ks at*
  rw[Zmv,nm]at h
  have hm:=y3 (ks:=ks) hs.mem hs.rows
  refine⟨_,c.pj st.rows ks,h,hm,λr=>?_,λt=>?_,hs.size,hs.defers,hs.gb,hs.gq,hs.reach.step (ks:=ks) hM hs.gq ⟨hm,Zfo,Fr.refl _ w,λb hb=>?_,λr aq hr hv=>?_⟩⟩
  ·rw[Z88,aX,<-hs.rows r];rfl
  ·rw[Zn9];exact qE hs.mem hs.rows (hs.env t)
  ·rcases hb with hb|hb
   ·exact .inl hb
   ·exact .inr (.inl hb)
  ·obtain⟨_,row,h1,_⟩:=KI hr
   exact .inl ⟨⟨row,h1⟩,hv,rfl⟩
theorem qc{c:Ctx}{w:World}(hm:Mem c w){r:Nat}{ty:TypeId}{sz:Nat}{e e':List D}(hr:c.R r=some ⟨true,ty,sz,.gen [e]⟩)(hl:e'.length=e.length)(hc:∀arr,kU c w e arr 0->kU c w e' arr 0):jq c w (c.jI r ⟨true,ty,sz,.gen [e']⟩) w/\Mem (c.jI r ⟨true,ty,sz,.gen [e']⟩) w:=by
 have hg:jq c w (c.jI r ⟨true,ty,sz,.gen [e']⟩) w:=by
  refine⟨rfl,aO _,λb hb=>⟨hb,rfl⟩,λs x hs=>?_⟩
  by_cases e:s=r
  ·subst e
   rw[hr]at hs;cases hs
   exact⟨⟨true,ty,sz,.gen [e']⟩,by simp[Ctx.jI],rfl,rfl,rfl,rfl,rfl,Iff.rfl,λ_ a ha=>⟨a,ha,rfl⟩⟩
  ·exact⟨x,by simp[Ctx.jI,e,hs],rfl,rfl,rfl,rfl,rfl,Iff.rfl,λ_ a ha=>⟨a,ha,rfl⟩⟩
 have jG:∀s x,(c.jI r ⟨true,ty,sz,.gen [e']⟩).R s=some x->∃x',c.R s=some x':=λs x hs=>by
  by_cases e:s=r
  ·exact⟨_,by rw[e];exact hr⟩
  ·exact⟨x,by simpa[Ctx.jI,e]using hs⟩
 refine⟨hg,λs x hs=>?_,λs q x y hs hq v1 v2 he=>?_,λb iL=>⟨(hm.fk b iL).1,λs x hs hv=>?_⟩,hm.top,hm.kX⟩
 ·by_cases es:s=r
  ·subst es
   simp only[Ctx.jI,if_true,Option.some.injEq]at hs
   subst hs
   rcases hm.row _ _ hr with⟨g0,g1,g2,g3⟩|⟨g0,arr,g1,g2,g3⟩
   ·cases g1
   ·refine .inr ⟨g0,arr,g1,g2,?_⟩
    simp only[if_true]at g3⊢
    obtain⟨e0,q1,q2,q3,q4⟩:=g3
    cases q1
    exact⟨e',rfl,hl.trans q2,q3,Nw hg (hc arr q4)⟩
  ·have jn:c.R s=some x:=by simpa[Ctx.jI,es]using hs
   exact ue hg rfl Iff.rfl (λ_=>rfl) (hm.row s x jn)
 ·obtain⟨x',jL⟩:=jG s x hs
  obtain⟨y',Au⟩:=jG q y hq
  exact hm.inj s q x' y' jL Au v1 v2 he
 ·obtain⟨x',jL⟩:=jG s x hs
  exact(hm.fk b iL).2 s x' jL hv
theorem xc{T:fj}{R:Rows}{i:Nat}{ty:TypeId}{sz:Nat}{e:TypeId}{n:Nat}(h:uz T R i=some (ty,sz,e,n)):0<n/\∃d,R.getD i none=some ⟨true,ty,sz,.gen [[d]]⟩/\(d=.du\/d=.emp):=by
 unfold uz at h
 split at h
 ·rename_i j6 kE d hr
  have go:∀{x:Option (TypeId×Nat×TypeId×Nat)},x=some (ty,sz,e,n)->(x=match T.get j6 with|some ⟨.slice e n,_,_,_,_,_⟩=>(match bJ 0 n with|true=>some (j6,kE,e,n)|false=>none)|_=>none)->0<n/\j6=ty/\kE=sz:=by
   intro x hx hy
   rw[hx]at hy
   split at hy
   ·split at hy
    ·rename_i hb;cases hy;exact⟨lE hb,rfl,rfl⟩
    ·cases hy
   ·cases hy
  split at h
  ·obtain⟨h1,rfl,rfl⟩:=go h rfl
   exact⟨h1,_,hr,.inl rfl⟩
  ·obtain⟨h1,rfl,rfl⟩:=go h rfl
   exact⟨h1,_,hr,.inr rfl⟩
  ·cases h
 ·cases h
theorem Gn{N M:Nat}{c0:Ctx}{w0:World}{w:World}{a:Act}{T:fj}{env:List (Nat×D)}{K:Rows->Prop}:∀{l:List iz} {R:Rows} {c:Ctx},IB T l env R K->ft N M c0 w0 c w ⟨env,R⟩ a->∃R' c',K R'/\ft N M c0 w0 c' w ⟨env,R'⟩ a
 |[],R,c,h,hs=>⟨R,c,h,hs⟩
 |.int _ _::l,R,c,h,hs=>Gn (l:=l) h hs
 |.arr _::l,R,c,h,hs=>Gn (l:=l) h hs
 |.sl _ _ _::l,R,c,h,hs=>Gn (l:=l) h hs
 |.fn _ _::l,R,c,h,hs=>Gn (l:=l) h hs
 |.ptr i _ _::l,R,c,h,hs=>by
  simp only[IB]at h
  split at h
  rotate_left
  ·exact Gn (l:=l) h hs
  rename_i ty sz u n hr
  obtain⟨h0,d,h2,hd⟩:=xc hr
  simp only[nm,Nx]at h
  have cq:i<R.length:=by
   by_cases cq:i<R.length
   ·exact cq
   ·rw[aK,aM (by omega)]at h2;cases h2
  rw[List.set_append_left _ _ cq]at h
  have hi:c.R i=some ⟨true,ty,sz,.gen [[d]]⟩:=by rw[hs.rows];exact h2
  have hn:c.R R.length=none:=by rw[hs.rows,aK,aM (aO _)];rfl
  have gl:i≠R.length:=by omega
  have IC:=Wv hs.mem hn (row:=⟨false,u,n,.gen []⟩) rfl rfl h0
  have Ww:=SM (w:=w) hn ⟨false,u,n,.gen []⟩
  have Wx:(c.jB R.length ⟨false,u,n,.gen []⟩).R i=some ⟨true,ty,sz,.gen [[d]]⟩:=by simp[Ctx.jB,gl,hi]
  obtain⟨Wy,Ce⟩:=qc (e':=[.all R.length]) IC Wx rfl (λarr hc=>by
   obtain⟨⟨v,hv,h1⟩,_⟩:=hc
   refine⟨⟨v,hv,⟨false,u,n,.gen []⟩,by simp[Ctx.jB],rfl,.inl ⟨.inl rfl,?_⟩⟩,trivial⟩
   rcases hd with rfl|rfl
   ·exact⟨none,h1,Ny⟩
   ·exact h1)
  have hg:=Ww.trans Wy
  have nF:lU c w ((c.jB R.length ⟨false,u,n,.gen []⟩).jI i ⟨true,ty,sz,.gen [[.all R.length]]⟩) w:=by
   refine⟨Ce,hg,Fr.refl _ w,λb hb=>.inl hb,λr aq hr hv=>.inl ?_⟩
   have Ax:r≠R.length:=λe=>hv (.inl e)
   by_cases er:r=i
   ·subst er;exact⟨⟨_,hi⟩,λe=>hv (.inr e),rfl⟩
   ·exact⟨⟨aq,by simpa[Ctx.jI,Ctx.jB,er,Ax]using hr⟩,λe=>hv (.inr e),rfl⟩
  refine Gn (l:=l) h ⟨Ce,λr=>?_,λt=>Ao hg (hs.env t),hs.size,hs.defers,hs.gb,hs.gq,hs.reach.step (ks:=[]) (λk hk=>by simp[cf]at hk) hs.gq nF.toK⟩
  simp only[Ctx.jI,Ctx.jB]
  by_cases er:r=i
  ·subst er
   simp[aK,aZ (show r<(R.set r _).length by simpa using cq),cq]
  ·rw [if_neg er]
   by_cases en:r=R.length
   ·subst en
    simp[aK]
   ·rw[if_neg en,hs.rows]
    by_cases hl:r<R.length
    ·simp[aK,aZ (show r<(R.set i _).length by simpa using hl),List.getElem?_set_ne (Ne.symm er)]
    ·have h1:R.getD r none=none:=by rw[aK,aM (by omega)];rfl
     rw[h1,aK,aM (by simp;omega)];rfl
