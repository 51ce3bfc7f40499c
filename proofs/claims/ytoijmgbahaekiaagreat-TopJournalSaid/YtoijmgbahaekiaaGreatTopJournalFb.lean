import Derived.Test.YtoijmgbahaekiaaGreatTopJournalFk
import Derived.Laws.IdiomStrings
import Derived.Laws.BytesArg
import Derived.Laws.Cover3
import Derived.RangeFuncRecord
import Derived.OrdersIn
import Derived.LoopNIn
open List renaming getD->aK,getElem?_take->aU,getElem?_toArray->aY,getElem?_append_left->aZ,size_toArray->bA,getElem?_append_right->bB,length_take->bD,length_drop->bG,getElem?_eq_none->aM,range'->bL,map_append->bM,map_congr_left->bN,ext_getElem->bO,getElem_map->bP,getElem_range'->bQ,map_toArray->bS
open Nat renaming mul_le_mul_right->aV,succ_mul->aW,zero_add->aX,add_mul->bC,le_refl->aO,add_zero->bH,le_trans->bI,lt_of_lt_of_le->bJ,blt->bK
open Bool renaming or_eq_true->aI,false_eq_true->aN
open Array renaming getD->aP,empty_append->bR,toArray_toList->bU
open Option renaming bind_some->aL
set_option linter.all false
namespace Go.GD
open Go
theorem Qub{P:Program}(w:World){t tx ty e:TypeId}{i:TypeInfo}(ht:P.underlying t=some (.slice e))(hi:P.info? e=some i)
 {a:Option Addr} {n cap m:Nat} {x:Value} {news:List Value} (hl:(Builtin.lenOf x).run P w=.ok m w) (hf:(Builtin.firstCells i.size (min m n) x).run P w=.ok news.toArray w) {w':World}
 (hst:∀b,a=some b->(storeCells b news).run P w=.ok () w') (hno:a=none->w'=w):
 (Builtin.copy_ #[t,tx] ty #[.slice a n cap,x]).run P w=.ok (.int .i64 (min m n:Nat)) w':=by
 cases a with
 |none=>
  have:=hno rfl
  subst this
  simp[Builtin.copy_,run_underlying ht,sizeOf,typeInfo,hi,hl,goInt,hf]
 |some b=>simp[Builtin.copy_,run_underlying ht,sizeOf,typeInfo,hi,hl,goInt,hf,hst b rfl]
theorem Z0y{I:Blocks}{w:World}{es:List (List D)}{news:List Value}{sz k:Nat}(h:Q15 I w es news.toArray 0 sz)(hk:k<=es.length):Q15 I w (es.take k) (news.take (k*sz)).toArray 0 sz:=by
 rw[Q2u]at h⊢
 intro i hi
 have hi':i<k:=by simp at hi;omega
 obtain⟨h1,h2⟩:=h i (by omega)
 have he:(es.take k).getD i []=es.getD i []:=by simp[aK,aU,hi']
 rw[he]
 refine⟨h1,?_⟩
 rw[Q31]at h2⊢
 intro j hj
 obtain⟨v,hv,hp⟩:=h2 j hj
 refine⟨v,?_,hp⟩
 have hlt:i*sz+j<k*sz:=by
  have:=aV sz (show i+1<=k by omega)
  rw[aW]at this
  omega
 simp only[aX,aY]at hv⊢
 rw[aU,if_pos hlt]
 exact hv
theorem Qjo{I:Blocks}{w:World}{es ys:List (List D)}{A B:List Value}{sz:Nat}(h1:Q15 I w es A.toArray 0 sz)(hA:A.length=es.length*sz)(h2:Q15 I w ys B.toArray 0 sz):Q15 I w (es++ys) (A++B).toArray 0 sz:=by
 rw[Q2u]at h1 h2⊢
 intro i hi
 by_cases hlt:i<es.length
 ·have he:(es++ys).getD i []=es.getD i []:=by simp[aK,aZ hlt]
  rw[he]
  obtain⟨g1,g2⟩:=h1 i hlt
  refine⟨g1,?_⟩
  rw[Q31]at g2⊢
  intro j hj
  obtain⟨v,hv,hp⟩:=g2 j hj
  refine⟨v,?_,hp⟩
  have hl:=(Array.getElem?_eq_some_iff.1 hv).1
  simp only[aY,bA]at hv hl⊢
  rw[aZ hl];exact hv
 ·have hi':i-es.length<ys.length:=by simp at hi;omega
  have he:(es++ys).getD i []=ys.getD (i-es.length) []:=by simp[aK,bB (show es.length<=i by omega)]
  rw[he]
  obtain⟨g1,g2⟩:=h2 _ hi'
  refine⟨g1,?_⟩
  rw[Q31]at g2⊢
  intro j hj
  obtain⟨v,hv,hp⟩:=g2 j hj
  refine⟨v,?_,hp⟩
  simp only[aY]at hv⊢
  have e:0+i*sz+j=A.length+(0+(i-es.length)*sz+j):=by
   rw[hA,show i*sz=(es.length+(i-es.length))*sz by congr 1;omega,bC];omega
  rw[e,bB (by omega)]
  rw[show A.length+(0+(i-es.length)*sz+j)-A.length=0+(i-es.length)*sz+j by omega]
  exact hv
theorem Zbs{I:Blocks}{w:World}{es:List (List D)}{arr:Array Value}{sz k:Nat}(h:Q15 I w es arr 0 sz):Q15 I w (es.drop k) (arr.toList.drop (k*sz)).toArray 0 sz:=by
 have:=Qba (l:=k) h
 rw[Q2u]at this⊢
 intro i hi
 obtain⟨h1,h2⟩:=this i hi
 refine⟨h1,?_⟩
 rw[Q31]at h2⊢
 intro j hj
 obtain⟨v,hv,hp⟩:=h2 j hj
 refine⟨v,?_,hp⟩
 simp only[aY,List.getElem?_drop]
 rw[<-hv]
 simp[Nat.add_assoc]
theorem qy{c:Ctx}{w:World}(hm:Mem c w){r:Nat}{row row':Row}(hr:c.R r=some row)(h1:row'.box=row.box)(hb:row.box=false)(h2:row'.ty=row.ty)(h3:row'.sz=row.sz)(h4:row'.es.l=row.es.l):Q2n c w (c.upd r row') w/\Mem (c.upd r row') w:=by
 have hg:Q2n c w (c.upd r row') w:=by
  refine⟨rfl,aO _,λb hb=>⟨hb,rfl⟩,λs x hs=>?_⟩
  by_cases e:s=r
  ·subst e
   rw[hr]at hs;cases hs
   exact⟨row',by simp[Ctx.upd],h1,h2,h3,by rw[h4],rfl,Iff.rfl,λ_ a ha=>⟨a,ha,rfl⟩⟩
  ·exact⟨x,by simp[Ctx.upd,e,hs],rfl,rfl,rfl,rfl,rfl,Iff.rfl,λ_ a ha=>⟨a,ha,rfl⟩⟩
 have old:∀s x,(c.upd r row').R s=some x->∃x',c.R s=some x':=λs x hs=>by
  by_cases e:s=r
  ·exact⟨row,by rw[e];exact hr⟩
  ·exact⟨x,by simpa[Ctx.upd,e]using hs⟩
 refine⟨hg,λs x hs=>?_,λs q x y hs hq v1 v2 he=>?_,λb hbI=>⟨(hm.imm b hbI).1,λs x hs hv=>?_⟩,hm.top,hm.tab⟩
 ·by_cases e:s=r
  ·subst e
   simp only[Ctx.upd,if_true,Option.some.injEq]at hs
   subst hs
   rcases hm.row _ row hr with⟨g0,g1,g2,g3⟩|⟨g0,arr,g1,g2,g3⟩
   ·exact .inl ⟨g0,h1.trans g1,h4.trans g2,by rw[h3];exact g3⟩
   ·refine .inr ⟨g0,arr,by rw[h2];exact g1,by rw[h3];exact g2,?_⟩
    rw[if_neg (by rw[hb];simp)]at g3
    rw[if_neg (by rw[h1,hb];simp),h4,h3]
    exact g3
  ·have hs':c.R s=some x:=by simpa[Ctx.upd,e]using hs
   exact Q2a hg rfl Iff.rfl (λ_=>rfl) (hm.row s x hs')
 ·obtain⟨x',hx'⟩:=old s x hs
  obtain⟨y',hy'⟩:=old q y hq
  exact hm.inj s q x' y' hx' hy' v1 v2 he
 ·obtain⟨x',hx'⟩:=old s x hs
  exact(hm.imm b hbI).2 s x' hx' hv
theorem za{P:Program}{T:Tab}(hT:Q34 P T){t tx ty:TypeId}{x y:D}{R:Rows}{K:D->Rows->Prop}(h:copyVC T t tx x y R K):
 ∃ val R',K val R'/\∀c w vx vy,Mem c w->(∀r,c.R r=R.getD r none)->Rep c w x vx->Rep c w y vy->
  ∃v' w' c',(Builtin.copy_ #[t,tx] ty #[vx,vy]).run P w=.ok v' w'/\NxtW c w c' w'/\(∀r,c'.R r=R'.getD r none)/\Rep c' w' val v':=by
 unfold copyVC at h
 split at h
 ·rename_i e esz _ _ _ _ _ ht
  have hk:=Q1q hT ht
  simp only at hk
  split at h
  ·rename_i ke sz by' cs z q kx _ _ _ _ _ he htx
   obtain⟨i0,hi0,hs0,_,hl0,hk0,_⟩:=Q7k (hT.get he)
   simp only at hs0
   split at h
   ·rename_i sy ys hsrc
    simp only[Q02,aE,aI]at h
    obtain⟨⟨⟨h0,h1⟩,h5⟩,h⟩:=h
    have h0:0<sz:=lE h0
    have h5:sy=sz\/ys.l=[]:=h5.imp bE Z36
    have core:∀(r o n k:Nat) (ty':TypeId) (es es':Els),es'.l=es.l.take o++ys.l.take k++es.l.drop (o+k)->R.getD r none=some ⟨false,ty',sz,es⟩->k=min ys.l.length n->o+n<=es.l.length->∀c w vx vy,Mem c w->(∀r,c.R r=R.getD r none)->
     ((n=0/\∃a,vx=.slice a 0 0)\/(¬c.V r/\∃cap arr,vx=.slice (some ⟨c.ρ r,o*sz,none⟩) n cap/\w.heap[c.ρ r]?=some (.cells arr ty' (0,0))))->Rep c w y vy->
     ∃v' w' c',(Builtin.copy_ #[t,tx] ty #[vx,vy]).run P w=.ok v' w'/\NxtW c w c' w'/\(∀q,c'.R q=(R.set r (some ⟨false,ty',sz,es'⟩)).getD q none)/\v'=.int .i64 (k:Nat):=by
     intro r o n k ty' es es' hes' hr hk' hon c w vx vy hm hR hx hy
     have hAg:Q4w c R:=λr row row' g1 g2=>by rw[hR,g2]at g1;exact(Option.some.inj g1).symm
     obtain⟨news,s1,s2,s3,s4⟩:=xN (P:=P) h0 hsrc h5 hm hAg hy
     have hrow:c.R r=some ⟨false,ty',sz,es⟩:=by rw[hR];exact hr
     rcases hx with⟨hn0,a,hx⟩|⟨hV,cap,arr,hx,hh⟩
     ·subst hx
      have hk0:k=0:=by omega
      have hrun:=Qub (P:=P) w (ty:=ty) (tx:=tx) (a:=a) (n:=0) (cap:=0) (news:=[]) (w':=w) hk.1 hi0 s2 (by rw[hs0];simpa using s3 0 (Nat.zero_le _) w rfl) (λb _=>by simp[storeCells]) (λ_=>rfl)
      have hl:es'.l=es.l:=by rw[hes',hk0];simp
      obtain⟨u1,u2⟩:=qy hm hrow (row':=⟨false,ty',sz,es'⟩) rfl rfl rfl rfl hl
      refine⟨_,w,c.upd r ⟨false,ty',sz,es'⟩,hrun,⟨u2,u1,Fr.refl _ w,λb hb=>.inl hb,λq row hq v=>.inl ⟨?_,v,rfl⟩⟩,λq=>?_,by rw[hk0];simp⟩
      ·by_cases e:q=r
       ·exact⟨_,by rw[e];exact hrow⟩
       ·exact⟨row,by simpa[Ctx.upd,e]using hq⟩
      ·rw[Z20 hr]
       simp only[Ctx.upd]
       split
       ·rfl
       ·exact hR q
     ·subst hx
      obtain⟨cur,ha,_,hE⟩:=hm.real hrow hV
      simp only at ha
      rw[hh]at ha;cases ha
      simp only[aN,if_false]at hE
      have hroom:es.l.length*sz<=arr.size:=by
       by_cases he:es.l.length=0
       ·rw[he];omega
       ·have:=Qul hE h0 (show es.l.length-1<es.l.length by omega)
        have e1:es.l.length*sz=(es.l.length-1)*sz+sz:=by rw[show es.l.length*sz=(es.l.length-1+1)*sz by congr 1;omega,aW]
        omega
      have hkn:k<=ys.l.length/\k<=n:=by omega
      have hfit:o*sz+0+(news.take (k*sz)).length<=arr.size:=by
       have h1:(o+k)*sz<=es.l.length*sz:=aV _ (by omega)
       rw[bC]at h1
       rw[bD];omega
      have hlen:(news.take (k*sz)).length=k*sz:=by
       have:=aV sz hkn.1
       rw[bD];omega
      have hst:=run_storeCells_at (P:=P) (c.ρ r) (o*sz) ty' (news.take (k*sz)) 0 arr w hh hfit (λu hu=>Q15.one s4 s1 u (List.mem_of_mem_take hu))
      have hrun:=Qub (P:=P) w (ty:=ty) (tx:=tx) (a:=some ⟨c.ρ r,o*sz,none⟩) (n:=n) (cap:=cap) (news:=news.take (k*sz)) (w':=w.setRow (c.ρ r) (arr.toList.take (o*sz+0)++news.take (k*sz)++arr.toList.drop (o*sz+0+(news.take (k*sz)).length)).toArray) hk.1 hi0 s2 (by rw[hs0,<-hk'];exact s3 k hkn.1 w rfl) (λb hb=>by cases hb;simpa using hst) (λh=>by cases h)
      have hlen2:es'.l.length=es.l.length:=by rw[hes'];simp only[lA,bD,bG];omega
      have hw:=hm.write (row':=⟨false,ty',sz,es'⟩) hrow hV hh (arr:=(arr.toList.take (o*sz+0)++news.take (k*sz)++arr.toList.drop (o*sz+0+(news.take (k*sz)).length)).toArray)
       (by simp only[bA,lA,bD,bG,Array.length_toList];simp only[bD]at hfit;omega) rfl rfl rfl hlen2
      have hmem:=hw.2 ⟨h0,by
       simp only[aN,if_false]
       rw[hes']
       refine Q11 (λb hb=>⟨hb,(hw.1.I b hb).2⟩) _ _ _ _ ?_
       have p1:=Z0y (k:=o) (I:=c.I) (w:=w) (news:=arr.toList) (es:=es.l) (sz:=sz) (by simpa using hE) (by omega)
       have p2:=Z0y (k:=k) s4 hkn.1
       have p3:=Zbs (k:=o+k) hE
       have l1:(arr.toList.take (o*sz)).length=(es.l.take o).length*sz:=by
        have:=aV sz (show o<=es.l.length by omega)
        rw[bD,bD,show min o es.l.length=o by omega,show arr.toList.length=arr.size from rfl];omega
       have q1:=Qjo p1 l1 p2
       have l2:(arr.toList.take (o*sz)++news.take (k*sz)).length=(es.l.take o++ys.l.take k).length*sz:=by
        rw[lA,l1,hlen,lA,bC,bD (l:=ys.l),show min k ys.l.length=k by omega]
       have q2:=Qjo q1 l2 p3
       have e2:o*sz+0+(news.take (k*sz)).length=(o+k)*sz:=by rw[hlen,bC];omega
       rw[e2]
       simpa using q2⟩
      refine⟨_,_,c.upd r ⟨false,ty',sz,es'⟩,hrun,⟨hmem,hw.1,(Qc6 w _ _).mono λb _ hb=>⟨r,_,hrow,hV,hb.symm⟩,λb hb=>.inl hb,λq row' hq v=>.inl ⟨?_,v,rfl⟩⟩,λq=>?_,by rw[hk']⟩
      ·by_cases e:q=r
       ·exact⟨_,by rw[e];exact hrow⟩
       ·exact⟨row',by simpa[Ctx.upd,e]using hq⟩
      ·rw[Z20 hr]
       simp only[Ctx.upd]
       split
       ·rfl
       ·exact hR q
    cases x<;>simp only at h
    case all r=>
     split at h
     ·rename_i ty' s es hr
      simp only[Q02,Q1h]at h
      have hs:=bE h.1
      subst hs
      refine⟨_,_,h.2,λc w vx vy hm hR hx hy=>?_⟩
      obtain⟨row,q1,q2,hv⟩:=hx
      have hrow:row=⟨false,ty',s,es⟩:=by rw[hR,hr]at q1;exact(Option.some.inj q1).symm
      subst hrow
      have hx':(es.l.length=0/\∃a,vx=.slice a 0 0)\/(¬c.V r/\∃cap arr,vx=.slice (some ⟨c.ρ r,0*s,none⟩) es.l.length cap/\w.heap[c.ρ r]?=some (.cells arr ty' (0,0))):=by
       rcases hv with⟨hV,a,hv,_⟩|⟨hV,cap,arr,hv,h1,h2,h3,h4⟩
       ·have:=(hm.virt q1 hV).2.1
        simp only at this
        exact .inl ⟨by rw[this];rfl,a,hv⟩
       ·exact .inr ⟨hV,cap,arr,by rw[Nat.zero_mul];exact hv,h3⟩
      obtain⟨v',w',c',p1,p2,p3,p4⟩:=core r 0 es.l.length _ ty' es ((ys.take (min ys.len es.len)).app (es.drop (min ys.len es.len))) (by rw[Els.app_l,Els.take_l,Els.drop_l,Els.len_l,Els.len_l];simp) hr rfl (by omega) c w vx vy hm hR hx' hy
      exact⟨v',w',c',p1,p2,p3,by rw[p4,Els.len_l,Els.len_l];rfl⟩
     ·exact h.elim
    case own r o n=>
     split at h
     ·rename_i ty' s es hr
      simp only[Q02,Q1h]at h
      have hs:=bE h.1
      subst hs
      refine⟨_,_,h.2,λc w vx vy hm hR hx hy=>?_⟩
      obtain⟨row,q1,q2,ho,hv⟩:=hx
      have hrow:row=⟨false,ty',s,es⟩:=by rw[hR,hr]at q1;exact(Option.some.inj q1).symm
      subst hrow
      have hx':(n=0/\∃a,vx=.slice a 0 0)\/(¬c.V r/\∃cap arr,vx=.slice (some ⟨c.ρ r,o*s,none⟩) n cap/\w.heap[c.ρ r]?=some (.cells arr ty' (0,0))):=by
       rcases hv with⟨h0,a,hv,_⟩|⟨hV,cap,arr,h1,h2,h3,hv,h4⟩
       ·exact .inl ⟨h0,a,hv⟩
       ·exact .inr ⟨hV,cap,arr,hv,h3⟩
      obtain⟨v',w',c',p1,p2,p3,p4⟩:=core r o n _ ty' es (((es.take o).app (ys.take (min ys.len n))).app (es.drop (o+min ys.len n))) (by rw[Els.app_l,Els.app_l,Els.take_l,Els.take_l,Els.drop_l,Els.len_l]) hr rfl ho c w vx vy hm hR hx' hy
      exact⟨v',w',c',p1,p2,p3,by rw[p4,Els.len_l];rfl⟩
     ·exact h.elim
   ·exact h.elim
  ·exact h.elim
 ·exact h.elim
theorem Za0{mx:Bool}{x y:D}{K:D->Prop}(h:minVC mx x y K):∃val,K val/\∀(P:Program) c w vx vy,Rep c w x vx->Rep c w y vy->∃u,((mx=false->∀tys ty,(Builtin.min_ tys ty #[vx,vy]).run P w=.ok u w)/\(mx=true->∀tys ty,(Builtin.max_ tys ty #[vx,vy]).run P w=.ok u w))/\Rep c w val u:=by
 unfold minVC at h
 split at h
 ·rename_i k a k' b
  simp only[Q02,decide_eq_true_eq]at h
  obtain⟨rfl,h⟩:=h
  refine⟨_,h,λP c w vx vy hx hy=>⟨_,⟨λe tys ty=>?_,λe tys ty=>?_⟩,rfl⟩⟩
  ·subst e
   rw[Rep.int.1 hx,Rep.int.1 hy]
   simp[Builtin.min_,Builtin.min2]
  ·subst e
   rw[Rep.int.1 hx,Rep.int.1 hy]
   simp[Builtin.max_,Builtin.max2]
 ·exact h.elim
theorem Z5r{P:Program}{T:Tab}(hT:Q34 P T){t:TypeId}{es:Els}{K:D->Prop}(h:Zb6 T t es K):K (.nilq es)/\∀c w vx vy,(∃a n cap,vx=.slice a n cap/\(a=none->es.l=[]))->Rep c w .nils vy->∃u,(∀x y,(do eqGuard .eql t x y vx vy;binOp .eql t vx vy).run P w=.ok u w)/\Rep c w (.nilq es) u:=by
 unfold Zb6 at h
 split at h
 ·rename_i e n _ _ _ _ _ ht
  have hk:=Q1q hT ht
  simp only at hk
  refine⟨h,λc w vx vy hx hy=>?_⟩
  obtain⟨a,len,cap,hv,hes⟩:=hx
  rw[show vy=_ from hy,hv]
  refine⟨.bool a.isNone,λx y=>?_,a.isNone,rfl,λe'=>?_⟩
  ·have hg:(eqGuard .eql t x y (.slice a len cap) (.slice none 0 0)).run P w=.ok () w:=rfl
   rw[Sem.run_bind,hg]
   simp only[Result.andThen_ok,binOp]
   simp only[run_equal_slice_nil w t e a len cap hk.1,Sem.run_bind,Result.andThen_ok,Sem.run_pure]
  ·exact hes (by cases a<;>simp_all)
 ·exact h.elim
theorem xy{P:Program}{T:Tab}(hT:Q34 P T){t:TypeId}{es:Els}{K:D->Prop}(h:Zb6 T t es K):K (.nilq es)/\∀s fr c w vx vy,Rep c w (.sl s es fr) vx->Rep c w .nils vy->∃u,(∀x y,(do eqGuard .eql t x y vx vy;binOp .eql t vx vy).run P w=.ok u w)/\Rep c w (.nilq es) u:=by
 obtain⟨h1,h2⟩:=Z5r hT h
 refine⟨h1,λs fr c w vx vy hx hy=>h2 c w vx vy ?_ hy⟩
 obtain⟨a,cap,hv,hc,hes⟩:=hx
 refine⟨a,_,cap,hv,λha=>?_⟩
 rcases hes with hes|⟨b,off,arr,ty,fz,hb,_⟩
 ·exact hes
 ·rw[ha]at hb;cases hb
theorem ya{P:Program}{T:Tab}(hT:Q34 P T){t:TypeId}{R:Rows}{r:Nat}{bx:Bool}{ty' sz':Nat}{es:Els}(hR:R.getD r none=some ⟨bx,ty',sz',es⟩){K:D->Prop}(h:Zb6 T t es K):K (.nilq es)/\∀c w vx vy,Mem c w->Q4w c R->Rep c w (.all r) vx->Rep c w .nils vy->∃u,(∀x y,(do eqGuard .eql t x y vx vy;binOp .eql t vx vy).run P w=.ok u w)/\Rep c w (.nilq es) u:=by
 obtain⟨h1,h2⟩:=Z5r hT h
 refine⟨h1,λc w vx vy hm hA hx hy=>h2 c w vx vy ?_ hy⟩
 obtain⟨row,g1,g2,hv⟩:=hx
 have:=hA r row _ g1 hR
 subst this
 rcases hv with⟨hV,a,hv,_⟩|⟨hV,cap,arr,hv,_⟩
 ·exact⟨a,0,0,hv,λ_=>(hm.virt g1 hV).2.1⟩
 ·exact⟨_,_,cap,hv,λe=>by cases e⟩
theorem Zb7{I:Blocks}{w:World}{l:List Int}{news:List Value}(h:Q15 I w (Els.ints .u8 l).l news.toArray 0 1)(hl:news.length=(Els.ints .u8 l).l.length*1):news=l.map (Value.int .u8):=by
 have hl':news.length=l.length:=by simpa[Els.len]using hl
 apply List.ext_getElem?
 intro i
 by_cases hi:i<l.length
 ·obtain⟨h1,h2⟩:=Q2u.1 h i (by simpa[Els.len]using hi)
  rw[Els.get_l _ (show i<(Els.ints .u8 l).len from hi)]at h2
  simp only[Els.get,Q6o,Q5,Q38,Q4u,Q4s,Q39,Q3c,Q4p,Q8n,Q5v,Q5w,Q61,Q9m,Q41,Q46,Q44,Q60,Q5z,and_true]at h2
  obtain⟨v,hv,hp⟩:=h2
  simp only[aX,Nat.mul_one,bH,aY]at hv
  rw[hv,hp]
  simp[aK,hi]
 ·rw[aM (by omega),aM (by simp;omega)]
theorem zy{P:Program}{T:Tab}(hT:Q34 P T){s e d:TypeId}{n a1 a2:Nat}{a3:List CTy}{a4:Option (List D)}{a5:Bool}(hs:T.get s=some ⟨.slice e n,a1,a2,a3,a4,a5⟩){x:D}{R:Rows}{K:D->Prop}(h:strVC T e d x R K):
 ∃val,K val/\∀c w v,Mem c w->Q4w c R->Rep c w x v->Yld P (convert s d v) w c val:=by
 unfold strVC at h
 split at h
 ·rename_i he hd
  have hk1:=Q1q hT hs
  have hk2:=Q1q hT he
  have hk3:=Q1q hT hd
  simp only at hk1 hk2 hk3
  split at h
  ·rename_i sy es hsrc
   split at h
   rotate_left
   ·exact h.elim
   rename_i l hto
   have hel:=Els.toI_l hto
   simp only[Q02,aI]at h
   obtain⟨h5,h⟩:=h
   have h5:sy=1\/es.l=[]:=h5.imp bE Z36
   refine⟨_,h,λc w v hm hA hr=>?_⟩
   have hsl:∃a cap,v=.slice a es.l.length cap:=by
    cases x<;>simp only[srcOf]at hsrc<;>try(cases hsrc;done)
    case nils=>cases hsrc;exact⟨none,0,hr⟩
    case emp=>cases hsrc;obtain⟨a,hr,_⟩:=hr;exact⟨a,0,hr⟩
    case sl=>cases hsrc;obtain⟨a,cap,hv,_⟩:=hr;exact⟨a,cap,hv⟩
    case all r=>
     split at hsrc
     ·rename_i ty' s' es' hR
      cases hsrc
      obtain⟨row,g1,g2,hv⟩:=hr
      have:=hA r row _ g1 hR
      subst this
      rcases hv with⟨hV,a,hv,_⟩|⟨hV,cap,arr,hv,_⟩
      ·have he:=(hm.virt g1 hV).2.1
       simp only at he
       exact⟨a,0,by rw[he];exact hv⟩
      ·exact⟨_,cap,hv⟩
     ·cases hsrc
    case own r o m=>
     split at hsrc
     ·rename_i ty' s' es' hR
      cases hsrc
      obtain⟨row,g1,g2,g5,hv⟩:=hr
      have:=hA r row _ g1 hR
      subst this
      simp only at g5
      have hlen:((es'.drop o).take m).l.length=m:=by rw[Els.take_l,Els.drop_l];simp only[bD,bG];omega
      rw[hlen]
      rcases hv with⟨h0,a,hv,_⟩|⟨hV,cap,arr,_,_,_,hv,_⟩
      ·subst h0;exact⟨a,0,hv⟩
      ·exact⟨_,cap,hv⟩
     ·cases hsrc
   obtain⟨a,cap,hv⟩:=hsl
   subst hv
   obtain⟨news,s1,s2,s3,s4⟩:=qN (P:=P) (by omega) hsrc h5 hm hA hr
   rw[hel]at s1 s4
   have hn:=Zb7 s4 s1
   have hlen:es.l.length=l.length:=by rw[hel];simp[Els.len]
   have hf:=s3 es.l.length (aO _) w rfl
   rw[List.take_of_length_le (by rw[hn,hlen];simp)]at hf
   refine⟨.string ⟨(bytesOf l).toArray⟩,?_,rfl⟩
   rw[run_convert_bytes_string w s d e a es.l.length cap hk1.1 hk2 hk3]
   cases a with
   |none=>
    simp only[Builtin.firstCells,Sem.run_pure,Result.ok.injEq,and_true]at hf
    have h1:news=[]:=by
     have:=congrArg Array.toList hf
     simpa using this.symm
    have he:l=[]:=by rw[h1]at hn;simpa using hn.symm
    subst he
    simp only[Conv.bytesToString,Sem.run_pure,bytesOf,List.map_nil]
    rfl
   |some a=>
    simp only[Builtin.firstCells,Nat.mul_one]at hf
    rw[hn]at hf
    rw[run_bytesToString w a es.l.length cap _ hf,foldl_push_bytes]
    have he0:ByteArray.empty.data= #[]:=rfl
    rw[he0]
    simp[bytesOf]
  ·exact h.elim
 ·exact h.elim
structure Qpi(c0:Ctx)(w0:World)(c:Ctx)(w:World):Prop where
 grows:Q2n c0 w0 c w
 fr:Fr (λb=>(∃r x,c0.R r=some x/\¬c0.V r/\c0.ρ r=b)\/c0.X b) w0 w
 imm:∀b,c.I b->c0.I b\/c0.X b\/w0.heap.size<=b
 rho:∀r row,c.R r=some row->¬c.V r->((∃x,c0.R r=some x)/\¬c0.V r/\c.ρ r=c0.ρ r)\/c0.X (c.ρ r)\/w0.heap.size<=c.ρ r
 xb:∀b,c0.X b->c0.base<=b
theorem Qpi.refl(c:Ctx)(w:World):Qpi {c with X:=λ_=>False} w c w:=
 ⟨⟨rfl,aO _,λ_ h=>⟨h,rfl⟩,λ_ row h=>⟨row,h,rfl,rfl,rfl,rfl,rfl,Iff.rfl,λ_ arr h=>⟨arr,h,rfl⟩⟩⟩,Fr.refl _ w,λ_ h=>.inl h,λ_ row h v=>.inl ⟨⟨row,h⟩,v,rfl⟩,λ_ h=>h.elim⟩
theorem Z6v{c0 c:Ctx}{w0 w:World}{M:Nat}{ks:List Nat}(hM:∀k,memB k ks=true->M<=k)(hown:∀r row,c0.R r=some row->r<M)(h:Q2n c0 w0 c w):Q2n c0 w0 (c.kill ks) w:=by
 refine⟨h.base,h.top,h.I,λr row hr=>?_⟩
 obtain⟨row',g1,g2,g3,g4,g5,g6,gV,g7⟩:=h.R r row hr
 obtain⟨s1,s2,s3,s4⟩:=Q3f ks row'
 have hlt:=hown r row hr
 refine⟨row'.kill ks,?_,s1.trans g2,s2.trans g3,s3.trans g4,s4.trans g5,g6,gV,g7⟩
 simp only[Ctx.kill]
 rw[if_neg (λe=>by have:=hM r e;omega),g1];rfl
theorem Qpi.step{c0 c c':Ctx}{w0 w w':World}{M:Nat}{ks:List Nat}(hM:∀k,memB k ks=true->M<=k)(hown:∀r row,c0.R r=some row->r<M)(h:Qpi c0 w0 c w)(n:NxtK ks c w c' w'):Qpi c0 w0 c' w':=by
 have killed:∀s x,memB s ks=true->c.R s=some x->¬c.V s->c0.X (c.ρ s)\/w0.heap.size<=c.ρ s:=λs x hs hx v'=>by
  rcases h.rho s x hx v' with⟨⟨y,hy⟩,_⟩|e'
  ·have:=hown s y hy;have:=hM s hs;omega
  ·exact e'
 refine⟨(Z6v hM hown h.grows).trans n.grows,⟨n.fr.os.trans h.fr.os,n.fr.tape.trans h.fr.tape,n.fr.output.trans h.fr.output,bI h.fr.size n.fr.size,λb hb hx=>?_⟩,λb hb=>?_,λr row hr hv=>?_,h.xb⟩
 ·have hlt:b<w.heap.size:=bJ hb h.fr.size
  refine(n.fr.heap b hlt fun⟨r,x,hr,v,e⟩=>?_).trans (h.fr.heap b hb hx)
  rcases h.rho r x hr v with⟨⟨y,hy⟩,v',e'⟩|e'|e'
  ·exact hx (.inl ⟨r,y,hy,v',by rw[<-e',e]⟩)
  ·exact hx (.inr (by rw[<-e];exact e'))
  ·omega
 ·rcases n.imm b hb with h1|⟨s,x,hs,hx,v',e⟩|h1
  ·exact h.imm b h1
  ·rcases killed s x hs hx v' with h1|h1
   ·exact .inr (.inl (by rw[<-e];exact h1))
   ·exact .inr (.inr (by omega))
  ·have:=h.fr.size;exact .inr (.inr (by omega))
 ·rcases n.rho r row hr hv with⟨⟨x,hx⟩,v',e⟩|⟨s,x,hs,hx,v',e⟩|e
  ·rcases h.rho r x hx v' with⟨h1,h2,e'⟩|e'|e'
   ·exact .inl ⟨h1,h2,e.trans e'⟩
   ·exact .inr (.inl (by rw[e];exact e'))
   ·exact .inr (.inr (by omega))
  ·rcases killed s x hs hx v' with h1|h1
   ·exact .inr (.inl (by rw[e];exact h1))
   ·exact .inr (.inr (by omega))
  ·have:=h.fr.size;exact .inr (.inr (by omega))
def Qa0(n:Nat)(w:World)(ds:List Deferred):Prop:=∃bs:List Nat,bs.Nodup/\ds=bs.map (λb=>({target:=.collected b,args:= #[]}:Deferred))/\∀b∈bs,n<=b/\w.heap[b]?=some (.deferred (some []))
theorem Qa0.nil{n:Nat}{w:World}:Qa0 n w []:=⟨[],List.nodup_nil,rfl,λb hb=>by simp at hb⟩
theorem Qa0.to{n:Nat}{w w':World}{ds:List Deferred}(h:Qa0 n w ds)(hf:∀b:Nat,w.heap[b]?=some (Obj.deferred (some []))->w'.heap[b]?=some (Obj.deferred (some []))):Qa0 n w' ds:=by
 obtain⟨bs,h1,h2,h3⟩:=h
 exact⟨bs,h1,h2,λb hb=>⟨(h3 b hb).1,hf b (h3 b hb).2⟩⟩
theorem Qa0.step{n:Nat}{c:Ctx}{w w':World}{ds:List Deferred}(h:Qa0 n w ds)(hm:Mem c w)(hf:Fr (λb=>∃r x,c.R r=some x/\¬c.V r/\c.ρ r=b) w w'):Qa0 n w' ds:=by
 refine h.to λb h2=>(hf.heap b (Array.getElem?_eq_some_iff.1 h2).1 fun⟨r,x,hr,hV,e⟩=>?_).trans h2
 rcases hm.row r x hr with h3|⟨_,arr,h3,_⟩
 ·exact hV h3.1
 ·rw[e,h2]at h3;cases h3
theorem Qa0.put{n:Nat}{w:World}{a:Act}{dst:Option Tmp}{v:Value}(h:Qa0 n w a.defers):Qa0 n w (a.put dst v).defers:=by
 cases dst<;>exact h
structure SimS(N M:Nat)(c0:Ctx)(w0:World)(c:Ctx)(w:World)(st:St)(a:Act):Prop where
 mem:Mem c w
 rows:∀r,c.R r=st.rows.getD r none
 env:∀t,Rep c w (look st.env t) (a.tmps.getD t undef)
 size:N<=a.tmps.size
 defers:Qa0 w0.heap.size w a.defers
 base0:c0.base<=w0.heap.size
 own0:∀r row,c0.R r=some row->r<M
 reach:Qpi c0 w0 c w
theorem SimS.base{N M:Nat}{c0:Ctx}{w0:World}{c:Ctx}{w:World}{st:St}{a:Act}(h:SimS N M c0 w0 c w st a):c.base<=w.heap.size:=by
 rw[h.reach.grows.base];exact bI h.base0 h.reach.fr.size
theorem Qgg{c:Ctx}{w:World}{env:List (Nat×D)}{a:Act}(f:Nat):Rep c w (evOp env (.func f)) (a.eval (.func f)):=by
 simp only[evOp,Act.eval]
 cases h:bK f YB with
 |false=>trivial
 |true=>exact⟨[],.inl ⟨lE h,rfl⟩,trivial⟩
theorem Qo1{c:Ctx}{w:World}{env:List (Nat×D)}{a:Act}(h:∀t,Rep c w (look env t) (a.tmps.getD t undef))(x:Operand):Rep c w (evOp env x) (a.eval x):=by
 cases x with
 |tmp t=>exact h t
 |const v=>
  simp only[evOp,Act.eval]
  cases hv:Z3o v with
  |none=>trivial
  |some d=>exact Qjr hv c w
 |global g=>trivial
 |func f=>exact Qgg f
def Qca(env:List (Nat×D))(dst:Option Tmp)(d:D):List (Nat×D):=match dst with|none=>env|some t=>(t,d)::env
theorem Q9e(env:List (Nat×D))(t:Nat)(d:D)(s:Nat):look ((t,d)::env) s=if t=s then d else look env s:=by
 simp only[look]
 cases hb:Nat.beq t s with
 |true=>rw[if_pos (bE hb)]
 |false=>rw[if_neg (λe=>by rw[e]at hb;simp at hb)]
theorem Z0s{c:Ctx}{w:World}{env:List (Nat×D)}{a:Act}{N:Nat}(hN:N<=a.tmps.size){dst:Option Tmp}(hd:∀t,dst=some t->t<N){d:D}{v:Value}(h:∀t,Rep c w (look env t) (a.tmps.getD t undef))(hv:Rep c w d v)(t:Nat):
 Rep c w (look (Qca env dst d) t) ((a.put dst v).tmps.getD t undef):=by
 cases dst with
 |none=>exact h t
 |some s=>
  have hs:=hd s rfl
  simp only[Qca,Act.put,Q9e]
  by_cases e:s=t
  ·subst e
   rw[if_pos rfl]
   have hlt:s<a.tmps.size:=bJ hs hN
   simpa[aP,hlt]using hv
  ·rw[if_neg e]
   have:=h t
   simpa[Array.getElem?_setIfInBounds_ne e]using this
def topT:List Operand->Nat
 |[]=>1
 |.tmp t::l=>t+1+topT l
 |_::l=>topT l
theorem Z1d:∀{l:List Operand},0<topT l
 |[]=>by simp[topT]
 |x::l=>by cases x<;>simp only[topT]<;>have:=Z1d (l:=l)<;>omega
theorem Z2x{t:Nat}:∀{l:List Operand},.tmp t∈l->t<topT l
 |x ::l,h=>by
  rcases List.mem_cons.1 h with e|e
  ·subst e;simp only[topT];omega
  ·have:=Z2x e
   cases x<;>simp only[topT]<;>omega
def Qrn(B:Nat):List Cap->List (Nat×D)
 |[]=>[]
 |x::l=>(B,x.d)::Qrn (B+1) l
theorem Qeo{env:List (Nat×D)}:∀{cs:List Cap} {B t:Nat},look (Qrn B cs++env) t=if h:B<=t/\t-B<cs.length then(cs[t-B]'h.2).d else look env t
 |[],B,t=>by simp[Qrn]
 |x ::l,B,t=>by
  simp only[Qrn,List.cons_append,Q9e,Qeo (cs:=l) (B:=B+1)]
  by_cases e:B=t
  ·subst e;simp
  ·rw[if_neg e]
   by_cases h:B+1<=t/\t-(B+1)<l.length
   ·rw[dif_pos h,dif_pos (by simp;omega)]
    have:t-B=(t-(B+1))+1:=by omega
    simp only[this,List.getElem_cons_succ]
   ·rw[dif_neg h,dif_neg (by simp;omega)]
def Qhb(args:Array Operand)(n:Nat):Array Operand:=(args.toList++(bL (topT args.toList) n).map Operand.tmp).toArray
def Qd6(a:Act)(B:Nat)(us:List Value):Act:={tmps:=((List.range B).map (λi=>a.tmps.getD i undef)++us).toArray,defers:=[]}
theorem Z4{a:Act}{B:Nat}{us:List Value}{t:Nat}(h:t<B):(Qd6 a B us).tmps.getD t undef=a.tmps.getD t undef:=by
 simp[Qd6,aP,h,List.getElem_append]
 omega
theorem Z50{a:Act}{B:Nat}{us:List Value}{i:Nat}:(Qd6 a B us).tmps.getD (B+i) undef=us.getD i undef:=by
 simp only[Qd6,Array.getD_eq_getD_getElem?,aY]
 rw[bB (by simp)]
 simp[aK]
theorem Q4e.length{c:Ctx}{w:World}:∀{cs:List Cap} {us:List Value},Q4e c w cs us->us.length=cs.length
 |[],[],_=>rfl
 |_::_,_::_,h=>by simp[Q4e.length h.2]
 |[],_::_,h=>h.elim
 |_::_,[],h=>h.elim
theorem Q4e.get{c:Ctx}{w:World}:∀{cs:List Cap} {us:List Value},Q4e c w cs us->∀i (h:i<cs.length),Z90 c w (cs[i]'h) (us.getD i undef)
 |[],[],_,i,h=>by simp at h
 |_::_,_::_,h,0,_=>by simpa using h.1
 |_::_,_::_,h,i+1,hi=>by simpa using Q4e.get h.2 i (by simpa using hi)
 |[],_::_,h,_,_=>h.elim
 |_::_,[],h,_,_=>h.elim
theorem Z04{env:List (Nat×D)}{args:Array Operand}{cs:List Cap}:(Qhb args cs.length).toList.map (evOp (Qrn (topT args.toList) cs++env))=args.toList.map (evOp env)++cs.map Cap.d:=by
 simp only[Qhb,bM]
 congr 1
 ·refine bN λx hx=>?_
  cases x with
  |tmp t=>simp only[evOp,Qeo];rw[dif_neg (by have:=Z2x hx;omega)]
  |_=>rfl
 ·refine bO (by simp) λi h1 h2=>?_
  have:i<cs.length:=by simpa using h2
  simp only[bP,bQ,evOp,Qeo]
  rw[dif_pos (by omega)]
  congr 1
  simp
theorem Qru{a:Act}{args:Array Operand}{us:List Value}:(Qhb args us.length).toList.map (Qd6 a (topT args.toList) us).eval=args.toList.map a.eval++us:=by
 simp only[Qhb,bM]
 congr 1
 ·refine bN λx hx=>?_
  cases x with
  |tmp t=>exact Z4 (Z2x hx)
  |_=>rfl
 ·refine bO (by simp) λi h1 h2=>?_
  have:i<us.length:=h2
  simp only[bP,bQ,Act.eval,Nat.one_mul]
  rw[Z50]
  simp[aK,this]
theorem cloHev{c:Ctx}{w:World}{env:List (Nat×D)}{a:Act}{args:Array Operand}{cs:List Cap}{us:List Value}(hl:∀x∈args.toList,Rep c w (evOp env x) (a.eval x))(hc:Q4e c w cs us):∀x∈(Qhb args cs.length).toList,Rep c w (evOp (Qrn (topT args.toList) cs++env) x) ((Qd6 a (topT args.toList) us).eval x):=by
 intro x hx
 simp only[Qhb,List.mem_append,List.mem_map]at hx
 rcases hx with hx|⟨t,ht,rfl⟩
 ·have:=hl x hx
  cases x with
  |tmp t=>
   have hlt:=Z2x hx
   simp only[evOp,Qeo,Act.eval]
   rw[dif_neg (by omega),Z4 hlt]
   exact this
  |_=>exact this
 ·rw[List.mem_range'_1]at ht
  obtain⟨i,hi,rfl⟩:∃i:Nat,i<cs.length/\t=topT args.toList+i:=⟨t-topT args.toList,Nat.sub_lt_left_of_lt_add ht.1 ht.2,(Nat.add_sub_cancel' ht.1).symm⟩
  have h2:=Q4e.get hc i hi
  have h3:look (Qrn (topT args.toList) cs++env) (topT args.toList+i)=(cs[i]'hi).d:=by
   rw[Qeo,dif_pos ⟨by omega,by omega⟩]
   congr 1
   simp
  simp only[evOp,Act.eval]
  rw[h3,Z50]
  exact Rep.ofV (VRep.ofC (Z2h.1 h2))
theorem yZ{P:Program}{f:FuncId}(he:∀args w,(callFunc f args).run P w=.ok (.enter f args) w){dst:Option Tmp}{t:Tmp}{args:Array Operand}{tys:Array TypeId}{type:TypeId}{pos:String}{after:Array Edge}{guard:Option (Nat×Bool)}{a:Act}{w:World}{us:List Value}
 (ht:a.eval (.tmp t)=.func (.func f) #[] us.toArray) {K:Act->World->Prop} {Q:Exit->Act->World->Prop}
 (h:(⟨some 0,.call ⟨.value (.func f),Qhb args us.length,tys⟩,type,pos,after,guard⟩:Oper).wpR P (Qd6 a (topT args.toList) us) w (λa' w'=>K (a.put dst (a'.tmps.getD 0 undef)) w') (λ_ _ _=>False)):
 (⟨dst,.call ⟨.value (.tmp t),args,tys⟩,type,pos,after,guard⟩:Oper).wpR P a w K Q:=by
 have hv:=Qru (a:=a) (args:=args) (us:=us)
 have r1:(execOp (Qd6 a (topT args.toList) us).eval (⟨some 0,.call ⟨.value (.func f),Qhb args us.length,tys⟩,type,pos,after,guard⟩:Oper)).run P w=.ok (.enter f (args.toList.map a.eval++us).toArray) w:=by
  simp only[execOp,resolve,Act.eval,Deferred.ofValue,Sem.run_bind,Sem.run_pure,Result.andThen_ok,invoke,bR,Array.append_empty]
  rw[he,<-hv,<-bS,bU]
 have r2:(execOp a.eval (⟨dst,.call ⟨.value (.tmp t),args,tys⟩,type,pos,after,guard⟩:Oper)).run P w=.ok (.enter f (args.toList.map a.eval++us).toArray) w:=by
  simp only[execOp,resolve,ht,Deferred.ofValue,Sem.run_bind,Sem.run_pure,Result.andThen_ok,invoke,bR]
  rw[he]
  congr 2
  rw[<-List.append_toArray,<-bS,bU]
 have hlt:0<(Qd6 a (topT args.toList) us).tmps.size:=by have:=Z1d (l:=args.toList);simp[Qd6];omega
 unfold Oper.wpR at h⊢
 rw[r1]at h
 rw[r2]
 refine Calls.mono h λe w' ⟨v,he,hp⟩=>⟨v,he,?_⟩
 have:((Qd6 a (topT args.toList) us).put (some 0) v).tmps.getD 0 undef=v:=by
  simp only[Act.put]
  simp[aP,hlt]
 simp only[this]at hp
 exact hp
theorem yy{P:Program}{dst:Option Tmp}{t:Tmp}{args:Array Operand}{tys:Array TypeId}{type:TypeId}{pos:String}{after:Array Edge}{guard:Option (Nat×Bool)}{a:Act}{w:World}{l:Nat}{rec:Loop}
 (ht:a.eval (.tmp t)=.func (.yield l) #[] #[]) (hl:w.heap[l]?=some (.loop rec)) {K:Act->World->Prop} {Q:Exit->Act->World->Prop} (hs:(args.toList.map a.eval).length=rec.params.size)
 (h:RoundIn Fence.wide 0 P l rec.fn ((rec.params.zip (args.toList.map a.eval).toArray).foldl (λtmps (t,a)=>tmps.setIfInBounds t a) rec.tmps) rec.assign rec.body w λe w'=>∃v,e=.returned v/\K (a.put dst v) w'):
 (⟨dst,.call ⟨.value (.tmp t),args,tys⟩,type,pos,after,guard⟩:Oper).wpR P a w K Q:=by
 have r2:(execOp a.eval (⟨dst,.call ⟨.value (.tmp t),args,tys⟩,type,pos,after,guard⟩:Oper)).run P w=.ok (.round l rec.fn ((rec.params.zip (args.toList.map a.eval).toArray).foldl (λtmps (t,a)=>tmps.setIfInBounds t a) rec.tmps) rec.assign rec.body) w:=by
  simp only[execOp,resolve,ht,Deferred.ofValue,Sem.run_bind,Sem.run_pure,Result.andThen_ok,invoke,bR]
  have hy:=run_yield (P:=P) (args:=(args.toList.map a.eval).toArray) hl (by simpa using hs)
  rw[<-hy,<-bS,bU]
 unfold Oper.wpR
 rw[r2]
 exact h
section
variable {P:Program} {G:List Q09} {M:Nat} {dst:Option Tmp} {f:FuncId} {t:Tmp} {args:Array Operand} {tys:Array TypeId} {type:TypeId} {pos':String} {after:Array Edge} {guard:Option (Nat×Bool)} {env:List (Nat×D)} {cs:List Cap} {R:Rows}
theorem cloX{x:Q09}(hok:Q05 P x)(hf:x.f=f)(hy:f<YB)(ht:look env t=.clo f cs){ks:List Nat}{val:D}{R':Rows}
 (h:OpK P ⟨some 0,.call ⟨.value (.func f),Qhb args cs.length,tys⟩,type,pos',after,guard⟩ (evOp (Qrn (topT args.toList) cs++env)) R ks val R'):OpK P ⟨dst,.call ⟨.value (.tmp t),args,tys⟩,type,pos',after,guard⟩ (evOp env) R ks val R':=by
 intro c w a hm hb hR hev K Q hK
 have h1:=hev (.tmp t) (by simp[Op.operands,Call.operands])
 simp only[evOp,ht]at h1
 obtain⟨us,⟨_,hv⟩|⟨hge,_⟩,hc⟩:=h1
 rotate_left
 ·exact absurd hy (Nat.not_lt.2 hge)
 have hl:us.length=cs.length:=hc.length
 refine yZ (λaz w=>by rw[<-hf];exact hok.enters (by rw[hf];exact hy) az w) hv ?_
 rw[hl]
 refine h c w _ hm hb hR (λy hy=>?_) _ _ λv w' c' hn hR' hr=>?_
 ·have hargs:∀x∈args.toList,Rep c w (evOp env x) (a.eval x):=λy hy=>hev y (by simp[Op.operands,Call.operands];exact .inr (by simpa using hy))
  simp only[Op.operands,Call.operands]at hy
  rcases Array.mem_append.1 hy with hy|hy
  ·simp at hy;subst hy;exact Qgg _
  ·exact cloHev hargs hc y (by simpa using hy)
 ·have hlt:0<(Qd6 a (topT args.toList) us).tmps.size:=by have:=Z1d (l:=args.toList);simp[Qd6];omega
  have:((Qd6 a (topT args.toList) us).put (some 0) v).tmps.getD 0 undef=v:=by
   simp only[Act.put]
   simp[aP,hlt]
  show K (a.put dst (((Qd6 a (topT args.toList) us).put (some 0) v).tmps.getD 0 undef)) w'
  rw[this]
  exact hK v w' c' hn hR' hr
theorem Zb3{K:D->Rows->Prop}(hG:Q57 P G)(hgo:Q8t G f=none)(ht:look env t=.clo f cs)(h:Z00 G f (args.toList.map (evOp env)++cs.map Cap.d) R K):∃val R',K val R'/\OpK P ⟨dst,.call ⟨.value (.tmp t),args,tys⟩,type,pos',after,guard⟩ (evOp env) R [] val R':=by
 rw[<-Z04]at h
 obtain⟨val,R',x,h1,h2,h3,_⟩:=Qxa (dst:=some 0) (tys:=tys) (type:=type) (pos':=pos') (after:=after) (guard:=guard) hG hgo h
 obtain⟨hok,hf⟩:=Qf1 hG h2
 have hgn:x.gone=none:=by simpa[Q8t,h2]using hgo
 exact⟨val,R',h1,cloX hok hf (by rw[<-hf];exact hok.real hgn) ht h3.toK⟩
theorem zb{k:Nat}{K:List Nat->D->Rows->Prop}(hG:Q57 P G)(h1':(bK f YB||Nat.beq args.size 1)=true)(hgo:Q8t G f=some k)(ht:look env t=.clo f cs)(h:Z7x G M f k (args.toList.map (evOp env)++cs.map Cap.d) R K):∃ks val R',K ks val R'/\(∀j,memB j ks=true->M<=j)/\OpK P ⟨dst,.call ⟨.value (.tmp t),args,tys⟩,type,pos',after,guard⟩ (evOp env) R ks val R':=by
 rw[<-Z04]at h
 by_cases hy:f<YB
 ·obtain⟨ks,val,R',x,h1,h2,h3,h4,h5⟩:=Za3 hG hy (dst:=some 0) (tys:=tys) (type:=type) (pos':=pos') (after:=after) (guard:=guard) hgo h
  obtain⟨hok,hf⟩:=Qf1 hG h2
  exact⟨ks,val,R',h1,h4,cloX hok hf hy ht h5⟩
 ·obtain⟨ks,val,R',x,h1,h2,h3,h4,h5⟩:=Qux hG hgo h
  refine⟨ks,val,R',h1,h4,λc w a hm hb hR hev K' Q hK'=>?_⟩
  have h1:=hev (.tmp t) (by simp[Op.operands,Call.operands])
  simp only[evOp,ht]at h1
  obtain⟨us,⟨hlt,_⟩|⟨hge,l,rec,hv,hI,hl,hrec⟩,hc⟩:=h1
  ·exact absurd hlt hy
  have hargs:∀x∈args.toList,Rep c w (evOp env x) (a.eval x):=λy hy=>hev y (by simp[Op.operands,Call.operands];exact .inr (by simpa using hy))
  have hlen:us.length=cs.length:=hc.length
  have hone:(args.toList.map a.eval).length=1:=by
   rcases Bool.or_eq_true_iff.1 h1' with e|e
   ·exact absurd (lE e) hy
   ·simpa using bE e
  have hsz:(args.toList.map a.eval).length=rec.params.size:=by
   obtain⟨_,_,y,_,hp,_,_,_,h1,_⟩:=hrec
   rw[hp,h1];exact hone
  exact yy hv hl hsz ((h5 c w (Qd6 a (topT args.toList) us).eval hm hb hR (λy hy=>cloHev hargs hc y hy) (λv w'=>K' (a.put dst v) w') λv w' c'=>hK' v w' c').2 (Nat.le_of_not_lt hy) l rec (args.toList.map a.eval) us (by rw[<-hlen,Qru]) hI hl hrec hone)
end
def OpX(P:Program)(G:List Q09)(M:Nat)(o:Oper)(ev:Operand->D)(R:Rows)(ks:List Nat)(val:D)(R':Rows):Prop:=
 if isW G o.op=true then(∀k,memB k ks=true->M<=k)/\OpK P o ev R ks val R' else ks=[]/\OpN P o ev R val R'
theorem OpX.toK{P:Program}{G:List Q09}{M:Nat}{o:Oper}{ev:Operand->D}{R:Rows}{ks:List Nat}{val:D}{R':Rows}(h:OpX P G M o ev R ks val R'):(∀k,memB k ks=true->M<=k)/\OpK P o ev R ks val R':=by
 unfold OpX at h
 split at h
 ·exact h
 ·obtain⟨rfl,h⟩:=h
  exact⟨λk hk=>by simp[memB]at hk,h.toW.toK⟩
theorem Qt8{P:Program}{G:List Q09}{M:Nat}{o:Oper}{ev:Operand->D}{R:Rows}{val:D}{R':Rows}(hw:isW G o.op=false)(h:OpN P o ev R val R'):OpX P G M o ev R [] val R':=by
 unfold OpX;rw[hw];exact⟨rfl,h⟩
theorem Qvm{P:Program}{G:List Q09}{M:Nat}{o:Oper}{ev:Operand->D}{R:Rows}{ks:List Nat}{val:D}{R':Rows}(hw:isW G o.op=true)(hk:∀k,memB k ks=true->M<=k)(h:OpK P o ev R ks val R'):OpX P G M o ev R ks val R':=by
 unfold OpX;rw[if_pos hw];exact⟨hk,h⟩
def GOp(P:Program)(G:List Q09)(M:Nat)(ops:Array Oper)(o:Oper)(env:List (Nat×D))(R:Rows)(ks:List Nat)(val:D)(R':Rows):Prop:=
 match o.guard with
 |none=>OpX P G M o (evOp env) R ks val R'
 |some (j,want)=>∃g,(ops[j]?).bind (·.dst)=some g/\((∃b,look env g=.bool b/\(if b=want then OpX P G M o (evOp env) R ks val R' else ks=[]/\val=.tup []/\R'=R))\/(look env g=.tup []/\ks=[]/\val=.tup []/\R'=R))
theorem Q4f{N:Nat}{st:St}{dst:Option Tmp}{d:D}{R:Rows}{K:St->Prop}(h:st.put N dst d R K):(∀t,dst=some t->t<N)/\K ⟨Qca st.env dst d,R⟩:=by
 cases dst with
 |none=>exact⟨λt h=>(by cases h),h⟩
 |some t=>
  simp only[St.put,Q02]at h
  refine⟨λs hs=>?_,h.2⟩
  cases hs
  exact lE h.1
theorem yb(d:D):d.kill []=d:=by
 cases d with
 |agg cs=>show D.agg (D.kills [] cs)=_;rw[Qxf]
 |clo f cs=>exact Qxb (.clo f cs)
 |_=>rfl
theorem Z49:∀{ds:List D},D.killT [] ds=ds
 |[]=>rfl
 |d::l=>by simp[D.killT,yb,Z49 (ds:=l)]
theorem qc(d:D):d.killV []=d:=by
 cases d with
 |tup ds=>show D.tup (D.killT [] ds)=_;rw[Z49]
 |agg cs=>exact yb (.agg cs)
 |clo f cs=>exact Qxb (.clo f cs)
 |_=>rfl
theorem Q17{env:List (Nat×D)}{t:Nat}:look (Q7l [] env) t=look env t:=by rw[Q7b,qc]
theorem Za5{P:Program}{T:Tab}(hT:Q34 P T){G:List Q09}(hG:Q57 P G){N M:Nat}{o:Oper}{st:St}{K:St->Prop}(h:doVC T G N M o st K):
 ∃ks val R' env1,(∀t,look env1 t=look (Q7l ks st.env) t)/\(∀t,o.dst=some t->t<N)/\K ⟨Qca env1 o.dst val,R'⟩/\OpX P G M o (evOp st.env) st.rows ks val R':=by
 have plain:(isW G o.op=Qjz o.op)->(opVC T o.op (evOp st.env) st.rows λd R=>st.put N o.dst d R K)->∃ks val R' env1,(∀t,look env1 t=look (Q7l ks st.env) t)/\(∀t,o.dst=some t->t<N)/\K ⟨Qca env1 o.dst val,R'⟩/\OpX P G M o (evOp st.env) st.rows ks val R':=by
  intro hw h
  obtain⟨val,R',hK,hO⟩:=Quu hT o _ _ _ h
  obtain⟨h1,h2⟩:=Q4f hK
  refine⟨[],_,_,st.env,λt=>Q17.symm,h1,h2,?_⟩
  split at hO
  ·rename_i hs
   exact Qvm (hw.trans hs) (λk hk=>by simp[memB]at hk) hO.toK
  ·rename_i hs
   exact Qt8 (by rw[hw];simpa using hs) hO
 unfold doVC at h
 split at h
 ·rename_i cc x y ho
  split at h
  ·rename_i b hb
   have hw:isW G o.op=false:=by rw[ho];rfl
   have go:∀z,z∈o.op.operands->(∀c w (a:Act),Rep c w (evOp st.env cc) (a.eval cc)->(execOp a.eval o).run P w=.ok (.value (a.eval z)) w)->(evOp st.env z).force (λd=>st.put N o.dst d st.rows K)->
    ∃ks val R' env1,(∀t,look env1 t=look (Q7l ks st.env) t)/\(∀t,o.dst=some t->t<N)/\K ⟨Qca env1 o.dst val,R'⟩/\OpX P G M o (evOp st.env) st.rows ks val R':=by
    intro z hz hrun h
    rw[D.force_iff]at h
    obtain⟨h1,h2⟩:=Q4f h
    exact⟨[],_,_,st.env,λt=>Q17.symm,h1,h2,Qt8 hw (Q18 λc w a hm hA hev=>⟨_,hrun c w a (hev cc (by rw[ho];simp[Op.operands])),hev z hz⟩)⟩
   cases b with
   |true=>
    refine go x (by rw[ho];simp[Op.operands]) (λc w a hc=>?_) h
    rw[hb]at hc
    simp only[execOp,ho,Rep.bool.1 hc,asBool,Sem.run_bind,Sem.run_pure,Result.andThen_ok,if_true]
   |false=>
    refine go y (by rw[ho];simp[Op.operands]) (λc w a hc=>?_) h
    rw[hb]at hc
    simp only[execOp,ho,Rep.bool.1 hc,asBool,Sem.run_bind,Sem.run_pure,Result.andThen_ok,aN,if_false]
  ·exact h.elim
 ·rename_i f args tys ho
  obtain⟨dst,op,type,pos,after,guard⟩:=o
  simp only at ho
  subst ho
  split at h
  ·rename_i hgo
   split at h
   rotate_left
   ·rename_i hfz
    obtain⟨ks,val,R',x,hK,hx,hM,hO⟩:=qF (dst:=dst) (type:=type) (pos':=pos) (after:=after) (guard:=guard) (tys:=tys) hG hgo h
    rw[Qep]at hK
    obtain⟨h1,h2⟩:=Q4f hK
    refine⟨ks,_,_,_,λt=>rfl,h1,h2,Qvm ?_ hM hO⟩
    have hfz:x.frz=true:=by simpa[Qx4,hx]using hfz
    cases hr':x.refs with
    |nil=>simp only[isW,hx,hr',hfz]
    |cons b bs=>simp only[isW,hx,hr']
   rename_i hfz
   have hfz':∀x,Qf0 G f=some x->x.frz=false:=λx hx=>by simpa[Qx4,hx]using hfz
   obtain⟨val,R',x,hK,hx,hO,hN⟩:=Qxa (dst:=dst) (type:=type) (pos':=pos) (after:=after) (guard:=guard) (tys:=tys) hG hgo h
   obtain⟨h1,h2⟩:=Q4f hK
   refine⟨[],_,_,st.env,λt=>Q17.symm,h1,h2,?_⟩
   cases hr:x.refs with
   |nil=>exact Qt8 (by simp only[isW,hx,hr,hfz' x hx]) (hN hr)
   |cons b bs=>exact Qvm (by simp only[isW,hx,hr]) (λk hk=>by simp[memB]at hk) hO.toK
  ·rename_i k hgo
   obtain⟨hy,h⟩:=Q02.1 h
   obtain⟨ks,val,R',x,hK,hx,hr,hM,hO⟩:=Za3 hG (lE hy) (dst:=dst) (type:=type) (pos':=pos) (after:=after) (guard:=guard) (tys:=tys) hgo h
   rw[Qep]at hK
   obtain⟨h1,h2⟩:=Q4f hK
   refine⟨ks,_,_,_,λt=>rfl,h1,h2,Qvm ?_ hM hO⟩
   cases hr':x.refs with
   |nil=>exact(hr hr').elim
   |cons b bs=>simp only[isW,hx,hr']
 ·rename_i t args tys ho
  obtain⟨dst,op,type,pos,after,guard⟩:=o
  simp only at ho
  subst ho
  split at h
  ·rename_i f cs ht
   split at h
   ·rename_i hgo
    split at h
    ·obtain⟨val,R',hK,hO⟩:=Zb3 (dst:=dst) (type:=type) (pos':=pos) (after:=after) (guard:=guard) (tys:=tys) hG hgo ht h
     obtain⟨h1,h2⟩:=Q4f hK
     exact⟨[],_,_,st.env,λt=>Q17.symm,h1,h2,Qvm rfl (λk hk=>by simp[memB]at hk) hO⟩
    ·exact h.elim
   ·rename_i k hgo
    obtain⟨h1',h⟩:=Q02.1 h
    obtain⟨ks,val,R',hK,hM,hO⟩:=zb (dst:=dst) (type:=type) (pos':=pos) (after:=after) (guard:=guard) (tys:=tys) hG h1' hgo ht h
    rw[Qep]at hK
    obtain⟨h1,h2⟩:=Q4f hK
    exact⟨ks,_,_,_,λt=>rfl,h1,h2,Qvm rfl hM hO⟩
  ·exact h.elim
 ·rename_i args tys ho
  obtain⟨dst,op,type,pos,after,guard⟩:=o
  simp only at ho
  subst ho
  split at h
  ·rename_i x y t tx hx ht
   have hargs:args= #[x,y]:=by rw[<-bU (xs:=args),hx]
   have htys:tys= #[t,tx]:=by rw[<-bU (xs:=tys),ht]
   subst hargs;subst htys
   obtain⟨ks,R',hK,hM,hr⟩:=Z9y (ty:=type) hT h
   rw[Qep]at hK
   obtain⟨h1,h2⟩:=Q4f hK
   refine⟨ks,_,_,_,λt=>rfl,h1,h2,Qvm rfl hM λc w a hm hb hR hev K' Q hK'=>?_⟩
   obtain⟨v',w',c',hrun,hn,hR',hv⟩:=hr c w _ _ hm hb hR (hev x (by simp[Op.operands,Call.operands])) (hev y (by simp[Op.operands,Call.operands]))
   refine Qf5 ?_ (hK' v' w' c' hn hR' hv)
   simp only[execOp,resolve,Sem.run_bind,Sem.run_pure,Result.andThen_ok,invoke,builtin]
   have:(#[x,y]:Array Operand).map a.eval= #[a.eval x,a.eval y]:=by simp
   rw[this,hrun];rfl
  ·exact h.elim
 ·rename_i args tys ho
  obtain⟨dst,op,type,pos,after,guard⟩:=o
  simp only at ho
  subst ho
  split at h
  ·rename_i x y t tx hx ht
   have hargs:args= #[x,y]:=by rw[<-bU (xs:=args),hx]
   have htys:tys= #[t,tx]:=by rw[<-bU (xs:=tys),ht]
   subst hargs;subst htys
   obtain⟨val,R',hK,hr⟩:=za (ty:=type) hT h
   obtain⟨h1,h2⟩:=Q4f hK
   refine⟨[],_,_,st.env,λt=>Q17.symm,h1,h2,Qvm rfl (λk hk=>by simp[memB]at hk) (OpW.toK λc w a hm hb hR hev K' Q hK'=>?_)⟩
   obtain⟨v',w',c',hrun,hn,hR',hv⟩:=hr c w _ _ hm hR (hev x (by simp[Op.operands,Call.operands])) (hev y (by simp[Op.operands,Call.operands]))
   refine Qf5 ?_ (hK' v' w' c' hn hR' hv)
   simp only[execOp,resolve,Sem.run_bind,Sem.run_pure,Result.andThen_ok,invoke,builtin]
   have:(#[x,y]:Array Operand).map a.eval= #[a.eval x,a.eval y]:=by simp
   rw[this,hrun];rfl
  ·exact h.elim
 ·rename_i args tys ho
  split at h
  ·rename_i x y hx
   obtain⟨val,hK,hr⟩:=Za0 h
   obtain⟨h1,h2⟩:=Q4f hK
   refine⟨[],_,_,st.env,λt=>Q17.symm,h1,h2,Qt8 (by rw[ho];rfl) (Q18 λc w a hm hA hev=>?_)⟩
   have hargs:args= #[x,y]:=by rw[<-bU (xs:=args),hx]
   subst hargs
   obtain⟨u,hu,hv⟩:=hr P c w _ _ (hev x (by rw[ho];simp[Op.operands,Call.operands])) (hev y (by rw[ho];simp[Op.operands,Call.operands]))
   refine⟨u,?_,hv⟩
   simp only[execOp,ho,resolve,Sem.run_bind,Sem.run_pure,Result.andThen_ok,invoke,builtin]
   have:(#[x,y]:Array Operand).map a.eval= #[a.eval x,a.eval y]:=by simp
   rw[this]
   have hu:=hu.1 rfl tys o.type
   rw[hu];rfl
  ·exact h.elim
 ·rename_i args tys ho
  split at h
  ·rename_i x y hx
   obtain⟨val,hK,hr⟩:=Za0 h
   obtain⟨h1,h2⟩:=Q4f hK
   refine⟨[],_,_,st.env,λt=>Q17.symm,h1,h2,Qt8 (by rw[ho];rfl) (Q18 λc w a hm hA hev=>?_)⟩
   have hargs:args= #[x,y]:=by rw[<-bU (xs:=args),hx]
   subst hargs
   obtain⟨u,hu,hv⟩:=hr P c w _ _ (hev x (by rw[ho];simp[Op.operands,Call.operands])) (hev y (by rw[ho];simp[Op.operands,Call.operands]))
   refine⟨u,?_,hv⟩
   simp only[execOp,ho,resolve,Sem.run_bind,Sem.run_pure,Result.andThen_ok,invoke,builtin]
   have:(#[x,y]:Array Operand).map a.eval= #[a.eval x,a.eval y]:=by simp
   rw[this]
   have hu:=hu.2 rfl tys o.type
   rw[hu];rfl
  ·exact h.elim
 ·rename_i s d x ho
  split at h
  ·rename_i e _ _ _ _ _ _ hs
   obtain⟨val,hK,hr⟩:=zy hT hs h
   obtain⟨h1,h2⟩:=Q4f hK
   refine⟨[],_,_,st.env,λt=>Q17.symm,h1,h2,Qt8 (by rw[ho];rfl) (Q18 λc w a hm hA hev=>?_)⟩
   obtain⟨u,hu,hv⟩:=hr c w _ hm hA (hev x (by rw[ho];simp[Op.operands]))
   refine⟨u,?_,hv⟩
   simp only[execOp,ho]
   rw[Sem.run_bind,hu];rfl
  ·rw[<-ho]at h
   exact plain (by rw[ho];rfl) h
 ·rename_i op t x y ty ho
  split at h
  ·rename_i s es fr hx hy
   obtain⟨hK,hr⟩:=xy hT h
   obtain⟨h1,h2⟩:=Q4f hK
   refine⟨[],_,_,st.env,λt=>Q17.symm,h1,h2,Qt8 (by rw[ho];rfl) (Q18 λc w a hm hA hev=>?_)⟩
   have q1:=hev x (by rw[ho];simp[Op.operands])
   have q2:=hev y (by rw[ho];simp[Op.operands])
   rw[hx]at q1;rw[hy]at q2
   obtain⟨u,hu,hv⟩:=hr s fr c w _ _ q1 q2
   refine⟨u,?_,hv⟩
   simp only[execOp,ho]
   rw[Sem.run_bind,hu x y];rfl
  ·rename_i r hx hy
   split at h
   ·rename_i bx ty' sz' es hR
    obtain⟨hK,hr⟩:=ya hT hR h
    obtain⟨h1,h2⟩:=Q4f hK
    refine⟨[],_,_,st.env,λt=>Q17.symm,h1,h2,Qt8 (by rw[ho];rfl) (Q18 λc w a hm hA hev=>?_)⟩
    have q1:=hev x (by rw[ho];simp[Op.operands])
    have q2:=hev y (by rw[ho];simp[Op.operands])
    rw[hx]at q1;rw[hy]at q2
    obtain⟨u,hu,hv⟩:=hr c w _ _ hm hA q1 q2
    refine⟨u,?_,hv⟩
    simp only[execOp,ho]
    rw[Sem.run_bind,hu x y];rfl
   ·exact h.elim
  ·rw[<-ho]at h
   exact plain (by rw[ho];rfl) h
 ·rename_i op n1 n2 n9 n3 n4 n5 n6 n7 n8
  refine plain ?_ h
  unfold isW
  split
  ·rename_i hop;rw[hop];rfl
  ·rename_i hop;exact(n2 _ _ _ hop).elim
  ·rename_i hop;exact(n9 _ _ _ hop).elim
  ·rename_i hop;exact(n3 _ _ hop).elim
  ·rename_i hop;exact(n4 _ _ hop).elim
  ·rename_i m1 m2 m5 m3 m4
   cases hop:o.op<;>first|rfl|exact(m1 _ _ _ hop).elim
theorem Qo2{st:St}{g:Nat}{b:Bool}(h:look st.env g=.bool b)(t:Nat):look (st.know (.tmp g) b).env t=look st.env t:=by
 simp only[St.know,Q9e]
 split
 ·rename_i e;subst e;exact h.symm
 ·rfl
theorem Zaq{env env':List (Nat×D)}(h:∀t,look env' t=look env t):evOp env'=evOp env:=by
 funext x;cases x<;>first|exact h _|rfl
theorem Qvh{P:Program}{T:Tab}(hT:Q34 P T){G:List Q09}(hG:Q57 P G){N M:Nat}{ops:Array Oper}{o:Oper}{l:List Oper}{st:St}{K:St->Prop}(h:Qa1 T G N M ops (o::l) st K):
 ∃ks val R' env1,(∀t,look env1 t=look (Q7l ks st.env) t)/\(∀t,o.dst=some t->t<N)/\GOp P G M ops o st.env st.rows ks val R'/\Qa1 T G N M ops l ⟨Qca env1 o.dst val,R'⟩ K:=by
 simp only[Qa1]at h
 split at h
 ·rename_i hg
  obtain⟨ks,val,R',env1,h0,h1,h2,h3⟩:=Za5 hT hG h
  exact⟨ks,val,R',env1,h0,h1,by unfold GOp;rw[hg];exact h3,h2⟩
 ·rename_i j want hg
  split at h
  ·rename_i g hd
   split at h
   ·rename_i b hb
    have yes:∀b',b'=b->doVC T G N M o (st.know (.tmp g) b') (λst=>Qa1 T G N M ops l st K)->b=want->∃ks val R' env1,(∀t,look env1 t=look (Q7l ks st.env) t)/\(∀t,o.dst=some t->t<N)/\GOp P G M ops o st.env st.rows ks val R'/\Qa1 T G N M ops l ⟨Qca env1 o.dst val,R'⟩ K:=by
     intro b' e hh hw
     subst e
     obtain⟨ks,val,R',env1,h0,h1,h2,h3⟩:=Za5 hT hG hh
     rw[Zaq (Qo2 hb)]at h3
     refine⟨ks,val,R',env1,λt=>by rw[h0,Q7b,Q7b,Qo2 hb],h1,?_,h2⟩
     unfold GOp;rw[hg]
     exact⟨g,hd,.inl ⟨_,hb,by rw[if_pos hw];exact h3⟩⟩
    have no:∀b',b'=b->(st.know (.tmp g) b').put N o.dst (.tup []) st.rows (λst=>Qa1 T G N M ops l st K)->b≠want->∃ks val R' env1,(∀t,look env1 t=look (Q7l ks st.env) t)/\(∀t,o.dst=some t->t<N)/\GOp P G M ops o st.env st.rows ks val R'/\Qa1 T G N M ops l ⟨Qca env1 o.dst val,R'⟩ K:=by
     intro b' e hh hw
     subst e
     obtain⟨h1,h2⟩:=Q4f hh
     refine⟨[],_,_,_,λt=>by rw[Q17,Qo2 hb],h1,?_,h2⟩
     unfold GOp;rw[hg]
     exact⟨g,hd,.inl ⟨_,hb,by rw[if_neg hw];exact⟨rfl,rfl,rfl⟩⟩⟩
    cases b<;>cases want<;>simp only[Qqx]at h
    ·exact yes _ rfl h rfl
    ·exact no _ rfl h (by simp)
    ·exact no _ rfl h (by simp)
    ·exact yes _ rfl h rfl
   ·rename_i hb
    obtain⟨h1,h2⟩:=Q4f h
    refine⟨[],_,_,st.env,λt=>Q17.symm,h1,?_,h2⟩
    unfold GOp;rw[hg]
    exact⟨g,hd,.inr ⟨hb,rfl,rfl,rfl⟩⟩
   ·exact h.elim
  ·exact h.elim
theorem Qhu{ops:Array Oper}{o:Oper}{c:Ctx}{w:World}{a:Act}{j g:Nat}{want:Bool}(hg:o.guard=some (j,want))(hd:(ops[j]?).bind (·.dst)=some g)(h:Rep c w (.tup []) (a.tmps.getD g undef)):
 Region.wanted o (yielded ops a.tmps)=false:=by
 obtain⟨vs,hv,hvs⟩:=h
 have hy:yielded ops a.tmps j=none:=by
  simp only[yielded,hd,aL]
  cases hx:a.tmps[g]? with
  |none=>rfl
  |some v=>
   have:a.tmps.getD g undef=v:=by simp[hx]
   rw[this]at hv
   rw[hv]
 unfold Region.wanted
 rw[hg]
 simp only[hy]
 rfl
theorem Qnf(c:Ctx)(w:World):Rep c w (.tup []) undef:=⟨[],rfl,trivial⟩
theorem Qni{ops:Array Oper}{o:Oper}{c:Ctx}{w:World}{a:Act}{j g:Nat}{want b:Bool}(hg:o.guard=some (j,want))(hd:(ops[j]?).bind (·.dst)=some g)(h:Rep c w (.bool b) (a.tmps.getD g undef)):
 Region.wanted o (yielded ops a.tmps)=decide (b=want):=by
 have hv:=Rep.bool.1 h
 have ht:a.tmps[g]?=some (.bool b):=by
  cases hx:a.tmps[g]? with
  |none=>simp[hx,undef]at hv
  |some v=>simp[hx]at hv;rw[hv]
 unfold Region.wanted
 simp only[hg,yielded,hd,aL,ht]
 cases b<;>cases want<;>rfl
def wpOp(P:Program)(ops:Array Oper)(Q:Exit->Act->World->Prop)(i:Nat)(K:Act->World->Prop)(a:Act)(w:World):Prop:=
 match ops[i]? with
 |none=>K a w
 |some o=>if Region.wanted o (yielded ops a.tmps)then o.wpR P a w K Q else K (a.put o.dst undef) w
def Zbd(P:Program)(ops:Array Oper)(Q:Exit->Act->World->Prop):List Nat->Act->World->Prop
 |[],a,w=>Q .normal a w
 |i::rest,a,w=>wpOp P ops Q i (Zbd P ops Q rest) a w
theorem Qzp{P:Program}{ops:Array Oper}{Q:Exit->Act->World->Prop}(i:Nat)(rest:List Nat)(a:Act)(w:World):Zbd P ops Q (i::rest) a w=wpOp P ops Q i (Zbd P ops Q rest) a w:=rfl
def Z7g(P:Program)(md:Region.Mode)(ops:Array Oper)(Q:Exit->Act->World->Prop):Nat->Array Bool->Act->World->Prop
 |0,listed,a,w=>Region.ready md ops listed=[]/\Q .normal a w
 |fuel+1,listed,a,w=>
  (Region.ready md ops listed=[]->Q .normal a w)/\
  ∀i∈Region.ready md ops listed,wpOp P ops Q i (Z7g P md ops Q fuel (listed.setIfInBounds i true)) a w
abbrev Fro(ro:Option Nat):Fence:={Fence.wide with round:=ro}
theorem xI{P:Program}{ro:Option Nat}{o:Oper}{a:Act}{w:World}{K:Act->World->Prop}{Q Q':Exit->Act->World->Prop}(h:o.wpR P a w K Q):o.wpIn (Fro ro) 0 P a w K Q':=by
 refine⟨λ_ _=>trivial,?_⟩
 have hd:∀c,o.op≠.defer c:=by
  intro c hc
  unfold Oper.wpR at h
  simp only[execOp,hc,Sem.run_bind]at h
  revert h
  cases(resolve a.eval c o.type).run P w with
  |halt _ _=>exactλh=>h
  |ok d w'=>exactλh=>h
 rw[Oper.semAt_eq _ _ _ hd]
 unfold Oper.wpR at h
 revert h
 generalize(execOp a.eval o).run P w=r
 intro h
 cases r with
 |halt _ _=>exact h.elim
 |ok n w'=>
  cases n with
  |value v=>exact h
  |skip=>exact h
  |enter f args=>
   refine⟨λe=>(by cases e),?_⟩
   refine CallsIn.mono (F:=Fence.wide) (callsIn_wide.2 h) λe w' ⟨v,he,hk⟩=>?_
   subst he;exact hk
  |round l f tmps assign body=>
   refine⟨λe=>(by cases e),?_⟩
   refine RoundIn.mono (F:=Fence.wide) h λe w' ⟨v,he,hk⟩=>?_
   subst he;exact hk
  |_=>exact h.elim
theorem Qtp{P:Program}{ro:Option Nat}{ops:Array Oper}{Q:Exit->Act->World->Prop}:∀{l:List Nat} {a:Act} {w:World},Zbd P ops Q l a w->wpOpsIn (Fro ro) 0 P ops Q l a w
 |[],_,_,h=>h
 |i ::l,a,w,h=>by
  rw[Qzp]at h
  unfold wpOp at h
  unfold wpOpsIn
  split
  ·rename_i ho;simp only[ho]at h;exact Qtp h
  ·rename_i o ho
   simp only[ho]at h
   split
   ·rename_i hw;rw[if_pos hw]at h;exact xI (Q:=Q) (Z2w (Q':=Q) (λa w h=>Qtp h) h)
   ·rename_i hw;rw[if_neg hw]at h;exact⟨λ_ _=>trivial,Qtp h⟩
theorem Qtn{P:Program}{ro:Option Nat}{md:Region.Mode}{ops:Array Oper}{Q:Exit->Act->World->Prop}:∀{n:Nat} {listed:Array Bool} {a:Act} {w:World},Z7g P md ops Q n listed a w->wpAnyIn (Fro ro) 0 P md ops Q n listed a w
 |0,_,_,_,h=>h
 |n +1,listed,a,w,h=>by
  refine⟨h.1,λi hi=>?_⟩
  have h:=h.2 i hi
  unfold wpOp at h
  unfold wpOpIn
  split
  ·rename_i ho;simp only[ho]at h;exact Qtn h
  ·rename_i o ho
   simp only[ho]at h
   split
   ·rename_i hw;rw[if_pos hw]at h;exact xI (Q:=Q) (Z2w (Q':=Q) (λa w h=>Qtn h) h)
   ·rename_i hw;rw[if_neg hw]at h;exact⟨λ_ _=>trivial,Qtn h⟩
theorem Z4e{P:Program}{ro:Option Nat}{id:Nat}{ops:Array Oper}{Q:Exit->Act->World->Prop}{a:Act}{w:World}(h:Zbd P ops Q (List.range ops.size) a w):(Code.region id ops false).wpIn (Fro ro) 0 P Q a w:=wpIn_region (Qtp h)
theorem Qno{P:Program}{ro:Option Nat}{ops:Array Oper}{Q:Exit->Act->World->Prop}{id:Nat}{a:Act}{w:World}(hm:P.follows .mixedOrders=true)
 (h:Z7g P .any ops Q ops.size (Array.replicate ops.size false) a {w with drawn:=w.drawn+1}):(Code.region id ops true).wpIn (Fro ro) 0 P Q a w:=wpIn_region_any hm (Qtn h)
theorem zI{P:Program}{G:List Q09}{ops:Array Oper}{N M:Nat}{c0:Ctx}{w0:World}{c:Ctx}{w:World}{st:St}{a:Act}{i:Nat}{o:Oper}{ks:List Nat}{val:D}{R':Rows}{env1:List (Nat×D)}(hi:ops[i]?=some o)
 (hs:SimS N M c0 w0 c w st a) (h1:∀t,look env1 t=look (Q7l ks st.env) t) (hd:∀t,o.dst=some t->t<N) (hG:GOp P G M ops o st.env st.rows ks val R') {K:Act->World->Prop} {Q:Exit->Act->World->Prop}
 (hK:∀a' w' c',SimS N M c0 w0 c' w' ⟨Qca env1 o.dst val,R'⟩ a'->K a' w'):wpOp P ops Q i K a w:=by
 have fin:(∀k,memB k ks=true->M<=k)->∀(v:Value) (w':World) (c':Ctx),NxtK ks c w c' w'->(∀r,c'.R r=R'.getD r none)->Rep c' w' val v->K (a.put o.dst v) w':=λhM v w' c' hn hR hv=>by
  refine hK _ _ c' ⟨hn.mem,hR,?_,?_,?_,hs.base0,hs.own0,hs.reach.step hM hs.own0 hn⟩
  ·exact Z0s hs.size hd (λt=>by rw[h1,Q7b];exact Q8b hn.grows (Qww (hs.env t))) hv
  ·cases ho:o.dst<;>simp[Act.put]<;>exact hs.size
  ·exact Qa0.put (hs.defers.step hs.mem hn.fr)
 have run:OpX P G M o (evOp st.env) st.rows ks val R'->o.wpR P a w K Q:=λhX=>hX.toK.2 c w a hs.mem hs.base hs.rows (λx _=>Qo1 hs.env x) K Q (fin hX.toK.1)
 have skip:ks=[]->val=.tup []->R'=st.rows->K (a.put o.dst undef) w:=λe0 e1 e2=>by
  refine hK _ _ c ⟨hs.mem,by rw[e2];exact hs.rows,?_,?_,?_,hs.base0,hs.own0,hs.reach⟩
  ·exact Z0s hs.size hd (λt=>by rw[h1,e0,Q17];exact hs.env t) (by rw[e1];exact Qnf _ _)
  ·cases ho:o.dst<;>simp[Act.put]<;>exact hs.size
  ·exact Qa0.put hs.defers
 unfold wpOp
 simp only[hi]
 unfold GOp at hG
 cases hg:o.guard with
 |none=>
  simp only[hg]at hG
  have hw:Region.wanted o (yielded ops a.tmps)=true:=by simp[Region.wanted,hg]
  rw[if_pos hw]
  exact run hG
 |some jw=>
  obtain⟨j,want⟩:=jw
  simp only[hg]at hG
  obtain⟨g,h2,⟨b,h3,h4⟩|⟨h3,e0,e1,e2⟩⟩:=hG
  rotate_left
  ·have hr:=hs.env g
   rw[h3]at hr
   rw[if_neg (by rw[Qhu (o:=o) hg h2 hr];simp)]
   exact skip e0 e1 e2
  have hr:=hs.env g
  rw[h3]at hr
  have hw:=Qni (o:=o) hg h2 hr
  by_cases e:b=want
  ·rw[if_pos e]at h4
   rw[if_pos (by rw[hw];simpa using e)]
   exact run h4
  ·rw[if_neg e]at h4
   rw[if_neg (by rw[hw];simpa using e)]
   exact skip h4.1 h4.2.1 h4.2.2
theorem yI{P:Program}{T:Tab}(hT:Q34 P T){G:List Q09}(hG:Q57 P G){N M:Nat}{ops:Array Oper}{c0:Ctx}{w0:World}{K:St->Prop}{Q:Exit->Act->World->Prop}(hQ:∀st c w a,K st->SimS N M c0 w0 c w st a->Q .normal a w):
 ∀(l:List Oper) (k:Nat) (st:St) (c:Ctx) (w:World) (a:Act),ops.toList.drop k=l->Qa1 T G N M ops l st K->SimS N M c0 w0 c w st a->Zbd P ops Q (bL k l.length) a w
 |[],k,st,c,w,a,_,h,hs=>hQ st c w a h hs
 |o ::l,k,st,c,w,a,hk,h,hs=>by
  have hlt:k<ops.toList.length:=by
   by_cases hlt:k<ops.toList.length
   ·exact hlt
   ·rw[List.drop_eq_nil_of_le (by omega)]at hk;cases hk
  rw[List.drop_eq_getElem_cons hlt]at hk
  have ho:ops[k]?=some o:=by
   have:=(List.cons.inj hk).1
   rw[<-this]
   simp at hlt
   simp[hlt]
  obtain⟨ks,val,R',env1,h1,h2,h3,h4⟩:=Qvh hT hG h
  simp only[List.length_cons,List.range'_succ]
  rw[Qzp]
  exact zI ho hs h1 h2 h3 λa' w' c' hs'=>yI hT hG hQ l (k+1) _ c' w' a' (List.cons.inj hk).2 h4 hs'
def exOf:Exit->Option Ex
 |.normal=>some .normal
 |.exit i=>some (.exit i)
 |.ret=>some .ret
 |_=>none
def TrR(ro:Option Nat)(P:Program)(N M:Nat)(code:Code)(st:St)(Q:Ex->St->Prop):Prop:=
 ∀ (c0:Ctx) (w0:World) (c:Ctx) (w:World) (a:Act),SimS N M c0 w0 c w st a->
  code.wpIn (Fro ro) 0 P (λe a' w'=>∃ex st' c',exOf e=some ex/\Q ex st'/\SimS N M c0 w0 c' w' st' a') a w
abbrev Tr:=TrR none
def Ctx.frz(c:Ctx)(R:Rows)(ks:List Nat):Ctx:=
 {c with R:=λr=>if memB r ks=true then none else(c.R r).map (Row.frzr R ks),I:=λb=>c.I b\/∃r row,memB r ks=true/\c.R r=some row/\¬c.V r/\c.ρ r=b}
section
variable {c:Ctx} {w:World} {R:Rows} {ks:List Nat}
theorem Z5b(R:Rows)(ks:List Nat)(row:Row):(row.frzr R ks).box=row.box/\(row.frzr R ks).ty=row.ty/\(row.frzr R ks).sz=row.sz/\(row.frzr R ks).es.l.length=row.es.l.length:=by
 unfold Row.frzr;split<;>exact⟨rfl,rfl,rfl,rfl⟩
theorem Qwg:∀{e:List D},(D.frzs R ks e).length=e.length
 |[]=>rfl
 |d::l=>by simp[D.frzs,Qwg (e:=l)]
theorem Z46:Q2n (c.kill ks) w (c.frz R ks) w:=by
 refine⟨rfl,aO _,λb h=>⟨.inl h,rfl⟩,λr x hx=>?_⟩
 obtain⟨h1,row,h2,rfl⟩:=Q2b hx
 obtain⟨s1,s2,s3,s4⟩:=Z5b R ks row
 obtain⟨k1,k2,k3,k4⟩:=Q3f ks row
 refine⟨row.frzr R ks,?_,s1.trans k1.symm,s2.trans k2.symm,s3.trans k3.symm,s4.trans k4.symm,rfl,Iff.rfl,λ_ arr h=>⟨arr,h,rfl⟩⟩
 show(if memB r ks=true then none else(c.R r).map (Row.frzr R ks))=_
 rw[h1,h2];rfl
theorem Qrb:∀{ds:List D} {arr:Array Value} {off:Nat},ds.all D.plain=true->Q32 c w ds arr off->Q8i c.I w ds arr off
 |[],_,_,_,_=>Q6o.2 trivial
 |d::ds,arr,off,hp,⟨⟨v,hv,h1⟩,h2⟩=>by
  rw[List.all_cons,aE]at hp
  exact Q5.2 ⟨⟨v,hv,CRep.plain hp.1 h1⟩,Qrb hp.2 h2⟩
variable (hm:Mem c w) (hA:∀r,c.R r=R.getD r none)
include hm hA
theorem Z2u{d:D}{v:Value}(h:CRep c w d v):CRep (c.frz R ks) w (d.frz1 R ks) v:=by
 have easy:∀{d:D},CRep c w d v->CRep (c.frz R ks) w (d.kill1 ks) v:=λh=>Qnd Z46 (Qn0 h)
 cases d with
 |all r=>
  simp only[D.frz1]
  cases hb:memB r ks with
  |false=>
   have:=easy h
   simpa only[D.kill1,hb]using this
  |true=>
   obtain⟨row,g1,g2,hv⟩:=h
   have hr:R.getD r none=some row:=by rw[<-hA r];exact g1
   obtain⟨box,ty,sz,es⟩:=row
   simp only at g2
   subst g2
   simp only[hr]
   rcases hv with⟨hV,a,hv,_⟩|⟨hV,cap,arr,hv,g3,g4,g5,g6⟩
   ·have he:=(hm.virt g1 hV).2.1
    simp only at he
    exact⟨a,0,by rw[he];exact hv,by rw[he];exact aO _,.inl he⟩
   ·obtain⟨arr',ha',hs,hx⟩:=hm.real g1 hV
    simp only at g5 ha' hx
    rw[g5]at ha';cases ha'
    simp only[aN,if_false]at hx
    exact⟨_,cap,hv,g3,.inr ⟨_,0,arr,_,_,rfl,.inr ⟨r,_,hb,g1,hV,rfl⟩,by simp,g5,Q11 (λb hb=>⟨.inl hb,rfl⟩) _ _ _ _ hx⟩⟩
 |ptr r i off=>
  simp only[D.frz1]
  cases hb:memB r ks with
  |false=>
   have:=easy h
   simpa only[D.kill1,hb]using this
  |true=>
   obtain⟨row,g1,g2,g3,hv⟩:=h
   have hr:R.getD r none=some row:=by rw[<-hA r];exact g1
   simp only
   split
   ·rename_i ty sz e he
    rw[he]at hr;cases hr
    split
    ·rename_i hp
     obtain⟨arr,ha,hs,hx⟩:=hm.real g1 g2
     simp only[if_true]at hx
     obtain⟨e',k1,k2,k3,k4⟩:=hx
     have k1:[e]=[e']:=by injection k1
     have k1:e=e':=(List.cons.inj k1).1
     subst k1
     refine⟨c.ρ r,0,arr,ty,(0,0),?_,.inr ⟨r,_,hb,g1,g2,rfl⟩,g3,ha,Q1u.2 ⟨k2,Z7s (λb hb=>⟨.inl hb,rfl⟩) _ _ _ (Qrb hp k4),Q25.2 trivial⟩⟩
     rw[hv];simp
    ·rw[hv];rfl
   ·rw[hv];rfl
 |_=>exact easy h
theorem Z9h:∀{ds:List D} {vs:List Value},Q2y c w ds vs->Q2y (c.frz R ks) w (D.frzs R ks ds) vs
 |[],[],_=>trivial
 |_::_,_::_,h=>⟨Z2u hm hA h.1,Z9h h.2⟩
 |[],_::_,h=>h.elim
 |_::_,[],h=>h.elim
theorem Z8y{d:D}{v:Value}(h:VRep c w d v):VRep (c.frz R ks) w (d.frzd R ks) v:=by
 cases d with
 |agg cs=>obtain⟨vs,hv,hr⟩:=h;exact⟨vs,hv,Z9h hm hA hr⟩
 |_=>
  have:=Z2u (ks:=ks) hm hA (VRep.toC (λcs e=>by cases e) h)
  exact VRep.ofC this
theorem Z8u:∀{ds:List D} {vs:List Value},Q5p c w ds vs->Q5p (c.frz R ks) w (D.frzT R ks ds) vs
 |[],[],_=>trivial
 |_::_,_::_,h=>⟨Z8y hm hA h.1,Z8u h.2⟩
 |[],_::_,h=>h.elim
 |_::_,[],h=>h.elim
theorem qz{d:D}{v:Value}(h:Rep c w d v):Rep (c.frz R ks) w (d.frzV R ks) v:=by
 cases d with
 |tup ds=>obtain⟨vs,hv,hr⟩:=h;exact⟨vs,hv,Z8u hm hA hr⟩
 |dead=>trivial
 |_=>
  have:=Z8y (ks:=ks) hm hA (Rep.toV (λds e=>by cases e) (λe=>by cases e) h)
  exact Rep.ofV this
theorem Z3t:∀{ds:List D} {arr:Array Value} {off:Nat},Q32 c w ds arr off->Q32 (c.frz R ks) w (D.frzs R ks ds) arr off
 |[],_,_,_=>trivial
 |_::_,_,_,⟨⟨v,hv,h1⟩,h2⟩=>⟨⟨v,hv,Z2u hm hA h1⟩,Z3t h2⟩
theorem yO{r:Nat}{row:Row}(h:Qol c w r row):Qol (c.frz R ks) w r (row.frzr R ks):=by
 obtain⟨s1,s2,s3,s4⟩:=Z5b R ks row
 rcases h with⟨h0,h1,h2,h3⟩|⟨h0,arr,ha,hs,hx⟩
 ·refine .inl ⟨h0,s1.trans h1,?_,by rw[s3];exact h3⟩
  rw[h2]at s4;exact List.eq_nil_of_length_eq_zero s4
 ·refine .inr ⟨h0,arr,by rw[s2];exact ha,by rw[s3];exact hs,?_⟩
  rw[s1,s3]
  split
  ·rename_i hb
   simp only[hb,if_true]at hx
   obtain⟨e,k1,k2,k3,k4⟩:=hx
   obtain⟨box,ty,sz,es⟩:=row
   simp only at hb k1 k2 k3 k4
   subst hb;subst k1
   exact⟨D.frzs R ks e,rfl,by rw[Qwg];exact k2,k3,Z3t hm hA k4⟩
  ·rename_i hb
   simp only[hb,aN,if_false]at hx
   have he:(row.frzr R ks).es=row.es:=by
    unfold Row.frzr
    split
    ·simp at hb
    ·rfl
   rw[he];exact Q11 (λb hb=>⟨.inl hb,rfl⟩) _ _ _ _ hx
omit hm hA in
theorem Qqe{r:Nat}{x:Row}(h:(c.frz R ks).R r=some x):memB r ks=false/\∃row,c.R r=some row/\x=row.frzr R ks:=by
 simp only[Ctx.frz]at h
 cases hb:memB r ks with
 |true=>rw[hb]at h;simp at h
 |false=>
  rw[hb]at h
  simp only[aN,if_false,Option.map_eq_some_iff]at h
  obtain⟨row,h1,h2⟩:=h
  exact⟨rfl,row,h1,h2.symm⟩
theorem vO:Mem (c.frz R ks) w:=by
 refine⟨λr x hx=>?_,λr s x y hx hy v1 v2 he=>?_,λb hb=>?_,hm.top,hm.tab.mono λb hb=>⟨.inl hb,rfl⟩⟩
 ·obtain⟨_,row,h1,rfl⟩:=Qqe hx
  exact yO hm hA (hm.row r row h1)
 ·obtain⟨_,row,h1,_⟩:=Qqe hx
  obtain⟨_,row',h2,_⟩:=Qqe hy
  exact hm.inj r s row row' h1 h2 v1 v2 he
 ·rcases hb with hb|⟨s,row,h1,h2,h3,rfl⟩
  ·refine⟨(hm.imm b hb).1,λr x hx v=>?_⟩
   obtain⟨_,row,h1,_⟩:=Qqe hx
   exact(hm.imm b hb).2 r row h1 v
  ·refine⟨hm.lt h2 h3,λr x hx v e=>?_⟩
   obtain⟨h4,row',h5,_⟩:=Qqe hx
   have:=hm.inj r s row' row h5 h2 v h3 e
   rw[this,h1]at h4;cases h4
end
theorem Z0w{R0:Rows}{ks:List Nat}:∀{R:Rows} {i r:Nat},(Qzi R0 ks R i).getD r none=if memB (i+r) ks=true then none else(R.getD r none).map (Row.frzr R0 ks)
 |[],i,r=>by simp[Qzi]
 |x::l,i,0=>by
  simp only[Qzi,bH]
  cases memB i ks<;>cases x<;>simp
 |x::l,i,r+1=>by
  have:=Z0w (R0:=R0) (ks:=ks) (R:=l) (i:=i+1) (r:=r)
  rw[show i+1+r=i+(r+1) by omega]at this
  simpa[Qzi]using this
def frzEnv(R:Rows)(ks:List Nat)(env:List (Nat×D)):List (Nat×D):=env.map λx=>(x.1,x.2.frzV R ks)
theorem Za1{R:Rows}{ks:List Nat}:∀{env:List (Nat×D)} {K:List (Nat×D)->Prop},frzE R ks env K↔K (frzEnv R ks env)
 |[],_=>Iff.rfl
 |(t,d)::l,K=>by
  simp only[frzE,D.force_iff]
  rw[Za1 (env:=l) (K:=λl=>K ((t,d.frzV R ks)::l))]
  rfl
theorem Z9r{R:Rows}{ks:List Nat}:∀{env:List (Nat×D)} {t:Nat},look (frzEnv R ks env) t=(look env t).frzV R ks
 |[],_=>rfl
 |(u,d)::l,t=>by
  simp only[frzEnv,List.map_cons,look]
  split
  ·rfl
  ·exact Z9r (env:=l)
theorem Z37{M:Nat}{R:Rows}:∀{l:List Nat} {r:Nat},r∈okFz M R l->M<=r
 |x ::l,r,h=>by
  simp only[okFz]at h
  split at h
  ·rename_i hb
   rcases List.mem_cons.1 h with e|h
   ·rw[e];rw[aE]at hb;exact lE hb.1
   ·exact Z37 h
  ·exact Z37 h
theorem qP{N M:Nat}{c0:Ctx}{w0:World}{c:Ctx}{w:World}{st:St}{a:Act}{T:Tab}{G:List Q09}{ops:Array Oper}{K:St->Prop}(h:frzK T G M ops st K)(hs:SimS N M c0 w0 c w st a):∃st' c',K st'/\SimS N M c0 w0 c' w st' a:=by
 unfold frzK at h
 split at h
 ·exact⟨st,c,h,hs⟩
 ·rename_i ks hk
  have hM:∀k,memB k (okFz M st.rows (Z8s T G st.env st.rows [] [] ops.toList))=true->M<=k:=λk hk=>Z37 (Q2i.1 hk)
  generalize okFz M st.rows (Z8s T G st.env st.rows [] [] ops.toList)=ks at*
  rw[Za1,Q1h]at h
  have hm:=vO (ks:=ks) hs.mem hs.rows
  refine⟨_,c.frz st.rows ks,h,hm,λr=>?_,λt=>?_,hs.size,hs.defers,hs.base0,hs.own0,hs.reach.step (ks:=ks) hM hs.own0 ⟨hm,Z46,Fr.refl _ w,λb hb=>?_,λr row' hr hv=>?_⟩⟩
  ·rw[Z0w,aX,<-hs.rows r];rfl
  ·rw[Z9r];exact qz hs.mem hs.rows (hs.env t)
  ·rcases hb with hb|hb
   ·exact .inl hb
   ·exact .inr (.inl hb)
  ·obtain⟨_,row,h1,_⟩:=Qqe hr
   exact .inl ⟨⟨row,h1⟩,hv,rfl⟩
theorem xc{c:Ctx}{w:World}(hm:Mem c w){r:Nat}{ty:TypeId}{sz:Nat}{e e':List D}(hr:c.R r=some ⟨true,ty,sz,.gen [e]⟩)(hl:e'.length=e.length)(hc:∀arr,Q32 c w e arr 0->Q32 c w e' arr 0):Q2n c w (c.upd r ⟨true,ty,sz,.gen [e']⟩) w/\Mem (c.upd r ⟨true,ty,sz,.gen [e']⟩) w:=by
 have hg:Q2n c w (c.upd r ⟨true,ty,sz,.gen [e']⟩) w:=by
  refine⟨rfl,aO _,λb hb=>⟨hb,rfl⟩,λs x hs=>?_⟩
  by_cases e:s=r
  ·subst e
   rw[hr]at hs;cases hs
   exact⟨⟨true,ty,sz,.gen [e']⟩,by simp[Ctx.upd],rfl,rfl,rfl,rfl,rfl,Iff.rfl,λ_ a ha=>⟨a,ha,rfl⟩⟩
  ·exact⟨x,by simp[Ctx.upd,e,hs],rfl,rfl,rfl,rfl,rfl,Iff.rfl,λ_ a ha=>⟨a,ha,rfl⟩⟩
 have old:∀s x,(c.upd r ⟨true,ty,sz,.gen [e']⟩).R s=some x->∃x',c.R s=some x':=λs x hs=>by
  by_cases e:s=r
  ·exact⟨_,by rw[e];exact hr⟩
  ·exact⟨x,by simpa[Ctx.upd,e]using hs⟩
 refine⟨hg,λs x hs=>?_,λs q x y hs hq v1 v2 he=>?_,λb hbI=>⟨(hm.imm b hbI).1,λs x hs hv=>?_⟩,hm.top,hm.tab⟩
 ·by_cases es:s=r
  ·subst es
   simp only[Ctx.upd,if_true,Option.some.injEq]at hs
   subst hs
   rcases hm.row _ _ hr with⟨g0,g1,g2,g3⟩|⟨g0,arr,g1,g2,g3⟩
   ·cases g1
   ·refine .inr ⟨g0,arr,g1,g2,?_⟩
    simp only[if_true]at g3⊢
    obtain⟨e0,q1,q2,q3,q4⟩:=g3
    cases q1
    exact⟨e',rfl,hl.trans q2,q3,Qet hg (hc arr q4)⟩
  ·have hs':c.R s=some x:=by simpa[Ctx.upd,es]using hs
   exact Q2a hg rfl Iff.rfl (λ_=>rfl) (hm.row s x hs')
 ·obtain⟨x',hx'⟩:=old s x hs
  obtain⟨y',hy'⟩:=old q y hq
  exact hm.inj s q x' y' hx' hy' v1 v2 he
 ·obtain⟨x',hx'⟩:=old s x hs
  exact(hm.imm b hbI).2 s x' hx' hv
theorem yc{T:Tab}{R:Rows}{i:Nat}{ty:TypeId}{sz:Nat}{e:TypeId}{n:Nat}(h:nilRow T R i=some (ty,sz,e,n)):0<n/\∃d,R.getD i none=some ⟨true,ty,sz,.gen [[d]]⟩/\(d=.nils\/d=.emp):=by
 unfold nilRow at h
 split at h
 ·rename_i ty' sz' d hr
  have go:∀{x:Option (TypeId×Nat×TypeId×Nat)},x=some (ty,sz,e,n)->(x=match T.get ty' with|some ⟨.slice e n,_,_,_,_,_⟩=>(match bK 0 n with|true=>some (ty',sz',e,n)|false=>none)|_=>none)->0<n/\ty'=ty/\sz'=sz:=by
   intro x hx hy
   rw[hx]at hy
   split at hy
   ·split at hy
    ·rename_i hb;cases hy;exact⟨lE hb,rfl,rfl⟩
    ·cases hy
   ·cases hy
  split at h
  ·obtain⟨h1,rfl,rfl⟩:=go h rfl
   exact⟨h1,_,hr,.inl rfl⟩
  ·obtain⟨h1,rfl,rfl⟩:=go h rfl
   exact⟨h1,_,hr,.inr rfl⟩
  ·cases h
 ·cases h
theorem Qf2{N M:Nat}{c0:Ctx}{w0:World}{w:World}{a:Act}{T:Tab}{env:List (Nat×D)}{K:Rows->Prop}:∀{l:List Cap} {R:Rows} {c:Ctx},Z8d T l env R K->SimS N M c0 w0 c w ⟨env,R⟩ a->∃R' c',K R'/\SimS N M c0 w0 c' w ⟨env,R'⟩ a
 |[],R,c,h,hs=>⟨R,c,h,hs⟩
 |.int _ _::l,R,c,h,hs=>Qf2 (l:=l) h hs
 |.arr _::l,R,c,h,hs=>Qf2 (l:=l) h hs
 |.sl _ _ _::l,R,c,h,hs=>Qf2 (l:=l) h hs
 |.fn _ _::l,R,c,h,hs=>Qf2 (l:=l) h hs
 |.ptr i _ _::l,R,c,h,hs=>by
  simp only[Z8d]at h
  split at h
  rotate_left
  ·exact Qf2 (l:=l) h hs
  rename_i ty sz u n hr
  obtain⟨h0,d,h2,hd⟩:=yc hr
  simp only[Q1h,Qkk]at h
  have hlt:i<R.length:=by
   by_cases hlt:i<R.length
   ·exact hlt
   ·rw[aK,aM (by omega)]at h2;cases h2
  rw[List.set_append_left _ _ hlt]at h
  have hi:c.R i=some ⟨true,ty,sz,.gen [[d]]⟩:=by rw[hs.rows];exact h2
  have hn:c.R R.length=none:=by rw[hs.rows,aK,aM (aO _)];rfl
  have hne:i≠R.length:=by omega
  have hm1:=Z1u hs.mem hn (row:=⟨false,u,n,.gen []⟩) rfl rfl h0
  have hg1:=Qkg (w:=w) hn ⟨false,u,n,.gen []⟩
  have hi1:(c.addV R.length ⟨false,u,n,.gen []⟩).R i=some ⟨true,ty,sz,.gen [[d]]⟩:=by simp[Ctx.addV,hne,hi]
  obtain⟨hg2,hm2⟩:=xc (e':=[.all R.length]) hm1 hi1 rfl (λarr hc=>by
   obtain⟨⟨v,hv,h1⟩,_⟩:=hc
   refine⟨⟨v,hv,⟨false,u,n,.gen []⟩,by simp[Ctx.addV],rfl,.inl ⟨.inl rfl,?_⟩⟩,trivial⟩
   rcases hd with rfl|rfl
   ·exact⟨none,h1,Qmq⟩
   ·exact h1)
  have hg:=hg1.trans hg2
  have hnx:NxtW c w ((c.addV R.length ⟨false,u,n,.gen []⟩).upd i ⟨true,ty,sz,.gen [[.all R.length]]⟩) w:=by
   refine⟨hm2,hg,Fr.refl _ w,λb hb=>.inl hb,λr row' hr hv=>.inl ?_⟩
   have hr1:r≠R.length:=λe=>hv (.inl e)
   by_cases er:r=i
   ·subst er;exact⟨⟨_,hi⟩,λe=>hv (.inr e),rfl⟩
   ·exact⟨⟨row',by simpa[Ctx.upd,Ctx.addV,er,hr1]using hr⟩,λe=>hv (.inr e),rfl⟩
  refine Qf2 (l:=l) h ⟨hm2,λr=>?_,λt=>Q8b hg (hs.env t),hs.size,hs.defers,hs.base0,hs.own0,hs.reach.step (ks:=[]) (λk hk=>by simp[memB]at hk) hs.own0 hnx.toK⟩
  simp only[Ctx.upd,Ctx.addV]
  by_cases er:r=i
  ·subst er
   simp[aK,aZ (show r<(R.set r _).length by simpa using hlt),hlt]
  ·rw [if_neg er]
   by_cases en:r=R.length
   ·subst en
    simp[aK]
   ·rw[if_neg en,hs.rows]
    by_cases hl:r<R.length
    ·simp[aK,aZ (show r<(R.set i _).length by simpa using hl),List.getElem?_set_ne (Ne.symm er)]
    ·have h1:R.getD r none=none:=by rw[aK,aM (by omega)];rfl
     rw[h1,aK,aM (by simp;omega)];rfl
