import Derived.Test.YtaemmjbkndlkeaaGreatMigrateOneFk
import Derived.Laws.IdiomStrings
import Derived.Laws.BytesArg
import Derived.Laws.Cover3
import Derived.RangeFuncRecord
import Derived.OrdersIn
import Derived.LoopNIn
open List renaming getD->aV,getElem?_take->aF,getElem?_toArray->bH,getElem?_append_left->bI,size_toArray->aK,getElem?_append_right->bJ,length_take->aD,length_drop->aG,getElem?_eq_none->aJ,range'->bO,map_append->bP,map_congr_left->bQ,ext_getElem->bR,getElem_map->bS,getElem_range'->bT,map_toArray->bV
open Nat renaming mul_le_mul_right->bD,succ_mul->bF,zero_add->bG,add_mul->bK,le_refl->aX,add_zero->aB,le_trans->bL,lt_of_lt_of_le->bM,blt->bN
open Bool renaming or_eq_true->aT,false_eq_true->aA
open Array renaming getD->aY,empty_append->bU,toArray_toList->bW
open Option renaming bind_some->aW
set_option linter.all false
namespace Go.GD
open Go
theorem Zkm{P:Program}(w:World){t tx ty e:TypeId}{i:TypeInfo}(ht:P.underlying t=some (.slice e))(hi:P.info? e=some i)
 {a:Option Addr} {n cap m:Nat} {x:Value} {news:List Value} (hl:(Builtin.lenOf x).run P w=.ok m w) (hf:(Builtin.firstCells i.size (min m n) x).run P w=.ok news.toArray w) {w':World}
 (jQ:∀b,a=some b->(storeCells b news).run P w=.ok () w') (mO:a=none->w'=w):
 (Builtin.copy_ #[t,tx] ty #[.slice a n cap,x]).run P w=.ok (.int .i64 (min m n:Nat)) w':=by
 cases a with
 |none=>
  have:=mO rfl
  subst this
  simp[Builtin.copy_,run_underlying ht,sizeOf,typeInfo,hi,hl,goInt,hf]
 |some b=>simp[Builtin.copy_,run_underlying ht,sizeOf,typeInfo,hi,hl,goInt,hf,jQ b rfl]
theorem Zcj{I:ab}{w:World}{es:List (List D)}{news:List Value}{sz k:Nat}(h:ij I w es news.toArray 0 sz)(hk:k<=es.length):ij I w (es.take k) (news.take (k*sz)).toArray 0 sz:=by
 rw[sW]at h⊢
 intro i hi
 have iz:i<k:=by simp at hi;omega
 obtain⟨h1,h2⟩:=h i (by omega)
 have he:(es.take k).getD i []=es.getD i []:=by simp[aV,aF,iz]
 rw[he]
 refine⟨h1,?_⟩
 rw[tH]at h2⊢
 intro j hj
 obtain⟨v,hv,hp⟩:=h2 j hj
 refine⟨v,?_,hp⟩
 have bg:i*sz+j<k*sz:=by
  have:=bD sz (show i+1<=k by omega)
  rw[bF]at this
  omega
 simp only[bG,bH]at hv⊢
 rw[aF,if_pos bg]
 exact hv
theorem Z1a{I:ab}{w:World}{es ys:List (List D)}{A B:List Value}{sz:Nat}(h1:ij I w es A.toArray 0 sz)(hA:A.length=es.length*sz)(h2:ij I w ys B.toArray 0 sz):ij I w (es++ys) (A++B).toArray 0 sz:=by
 rw[sW]at h1 h2⊢
 intro i hi
 by_cases bg:i<es.length
 ·have he:(es++ys).getD i []=es.getD i []:=by simp[aV,bI bg]
  rw[he]
  obtain⟨g1,g2⟩:=h1 i bg
  refine⟨g1,?_⟩
  rw[tH]at g2⊢
  intro j hj
  obtain⟨v,hv,hp⟩:=g2 j hj
  refine⟨v,?_,hp⟩
  have hl:=(Array.getElem?_eq_some_iff.1 hv).1
  simp only[bH,aK]at hv hl⊢
  rw[bI hl];exact hv
 ·have iz:i-es.length<ys.length:=by simp at hi;omega
  have he:(es++ys).getD i []=ys.getD (i-es.length) []:=by simp[aV,bJ (show es.length<=i by omega)]
  rw[he]
  obtain⟨g1,g2⟩:=h2 _ iz
  refine⟨g1,?_⟩
  rw[tH]at g2⊢
  intro j hj
  obtain⟨v,hv,hp⟩:=g2 j hj
  refine⟨v,?_,hp⟩
  simp only[bH]at hv⊢
  have e:0+i*sz+j=A.length+(0+(i-es.length)*sz+j):=by
   rw[hA,show i*sz=(es.length+(i-es.length))*sz by congr 1;omega,bK];omega
  rw[e,bJ (by omega)]
  rw[show A.length+(0+(i-es.length)*sz+j)-A.length=0+(i-es.length)*sz+j by omega]
  exact hv
theorem Zrm{I:ab}{w:World}{es:List (List D)}{arr:Array Value}{sz k:Nat}(h:ij I w es arr 0 sz):ij I w (es.drop k) (arr.toList.drop (k*sz)).toArray 0 sz:=by
 have:=JP (l:=k) h
 rw[sW]at this⊢
 intro i hi
 obtain⟨h1,h2⟩:=this i hi
 refine⟨h1,?_⟩
 rw[tH]at h2⊢
 intro j hj
 obtain⟨v,hv,hp⟩:=h2 j hj
 refine⟨v,?_,hp⟩
 simp only[bH,List.getElem?_drop]
 rw[<-hv]
 simp[Nat.add_assoc]
theorem qG{c:Ctx}{w:World}(hm:Mem c w){r:Nat}{row ao:Row}(hr:c.R r=some row)(h1:ao.box=row.box)(hb:row.box=false)(h2:ao.ty=row.ty)(h3:ao.sz=row.sz)(h4:ao.es.l=row.es.l):iW c w (c.jJ r ao) w/\Mem (c.jJ r ao) w:=by
 have hg:iW c w (c.jJ r ao) w:=by
  refine⟨rfl,aX _,λb hb=>⟨hb,rfl⟩,λs x hs=>?_⟩
  by_cases e:s=r
  ·subst e
   rw[hr]at hs;cases hs
   exact⟨ao,by simp[Ctx.jJ],h1,h2,h3,by rw[h4],rfl,Iff.rfl,λ_ a ha=>⟨a,ha,rfl⟩⟩
  ·exact⟨x,by simp[Ctx.jJ,e,hs],rfl,rfl,rfl,rfl,rfl,Iff.rfl,λ_ a ha=>⟨a,ha,rfl⟩⟩
 have jv:∀s x,(c.jJ r ao).R s=some x->∃x',c.R s=some x':=λs x hs=>by
  by_cases e:s=r
  ·exact⟨row,by rw[e];exact hr⟩
  ·exact⟨x,by simpa[Ctx.jJ,e]using hs⟩
 refine⟨hg,λs x hs=>?_,λs q x y hs hq v1 v2 he=>?_,λb ib=>⟨(hm.ff b ib).1,λs x hs hv=>?_⟩,hm.top,hm.jP⟩
 ·by_cases e:s=r
  ·subst e
   simp only[Ctx.jJ,if_true,Option.some.injEq]at hs
   subst hs
   rcases hm.row _ row hr with⟨g0,g1,g2,g3⟩|⟨g0,arr,g1,g2,g3⟩
   ·exact .inl ⟨g0,h1.trans g1,h4.trans g2,by rw[h3];exact g3⟩
   ·refine .inr ⟨g0,arr,by rw[h2];exact g1,by rw[h3];exact g2,?_⟩
    rw[if_neg (by rw[hb];simp)]at g3
    rw[if_neg (by rw[h1,hb];simp),h4,h3]
    exact g3
  ·have iP:c.R s=some x:=by simpa[Ctx.jJ,e]using hs
   exact sV hg rfl Iff.rfl (λ_=>rfl) (hm.row s x iP)
 ·obtain⟨x',jD⟩:=jv s x hs
  obtain⟨y',wQ⟩:=jv q y hq
  exact hm.inj s q x' y' jD wQ v1 v2 he
 ·obtain⟨x',jD⟩:=jv s x hs
  exact(hm.ff b ib).2 s x' jD hv
theorem za{P:Program}{T:e7}(hT:jb P T){t tx ty:TypeId}{x y:D}{R:Rows}{K:D->Rows->Prop}(h:tI T t tx x y R K):
 ∃ val R',K val R'/\∀c w vx vy,Mem c w->(∀r,c.R r=R.getD r none)->Rep c w x vx->Rep c w y vy->
  ∃v' w' c',(Builtin.copy_ #[t,tx] ty #[vx,vy]).run P w=.ok v' w'/\lu c w c' w'/\(∀r,c'.R r=R'.getD r none)/\Rep c' w' val v':=by
 unfold tI at h
 split at h
 ·rename_i e iC _ _ _ _ _ ht
  have hk:=mm hT ht
  simp only at hk
  split at h
  ·rename_i ke sz lg cs z q kx _ _ _ _ _ he htx
   obtain⟨i0,pn,Bm,_,JQ,wR,_⟩:=De (hT.get he)
   simp only at Bm
   split at h
   ·rename_i sy ys jL
    simp only[de,aE,aT]at h
    obtain⟨⟨⟨h0,h1⟩,h5⟩,h⟩:=h
    have h0:0<sz:=lE h0
    have h5:sy=sz\/ys.l=[]:=h5.imp bE R4
    have core:∀(r o n k:Nat) (jM:TypeId) (es iQ:ah),iQ.l=es.l.take o++ys.l.take k++es.l.drop (o+k)->R.getD r none=some ⟨false,jM,sz,es⟩->k=min ys.l.length n->o+n<=es.l.length->∀c w vx vy,Mem c w->(∀r,c.R r=R.getD r none)->
     ((n=0/\∃a,vx=.slice a 0 0)\/(¬c.V r/\∃cap arr,vx=.slice (some ⟨c.ρ r,o*sz,none⟩) n cap/\w.heap[c.ρ r]?=some (.cells arr jM (0,0))))->Rep c w y vy->
     ∃v' w' c',(Builtin.copy_ #[t,tx] ty #[vx,vy]).run P w=.ok v' w'/\lu c w c' w'/\(∀q,c'.R q=(R.set r (some ⟨false,jM,sz,iQ⟩)).getD q none)/\v'=.int .i64 (k:Nat):=by
     intro r o n k jM es iQ HC hr uM JR c w vx vy hm hR hx hy
     have oK:lR c R:=λr row ao g1 g2=>by rw[hR,g2]at g1;exact(Option.some.inj g1).symm
     obtain⟨news,s1,s2,s3,s4⟩:=z8 (P:=P) h0 jL h5 hm oK hy
     have cz:c.R r=some ⟨false,jM,sz,es⟩:=by rw[hR];exact hr
     rcases hx with⟨hn0,a,hx⟩|⟨hV,cap,arr,hx,hh⟩
     ·subst hx
      have wR:k=0:=by omega
      have ie:=Zkm (P:=P) w (ty:=ty) (tx:=tx) (a:=a) (n:=0) (cap:=0) (news:=[]) (w':=w) hk.1 pn s2 (by rw[Bm];simpa using s3 0 (Nat.zero_le _) w rfl) (λb _=>by simp[storeCells]) (λ_=>rfl)
      have hl:iQ.l=es.l:=by rw[HC,wR];simp
      obtain⟨u1,u2⟩:=qG hm cz (ao:=⟨false,jM,sz,iQ⟩) rfl rfl rfl rfl hl
      refine⟨_,w,c.jJ r ⟨false,jM,sz,iQ⟩,ie,⟨u2,u1,Fr.refl _ w,λb hb=>.inl hb,λq row hq v=>.inl ⟨?_,v,rfl⟩⟩,λq=>?_,by rw[wR];simp⟩
      ·by_cases e:q=r
       ·exact⟨_,by rw[e];exact cz⟩
       ·exact⟨row,by simpa[Ctx.jJ,e]using hq⟩
      ·rw[FI hr]
       simp only[Ctx.jJ]
       split
       ·rfl
       ·exact hR q
     ·subst hx
      obtain⟨cur,ha,_,hE⟩:=hm.real cz hV
      simp only at ha
      rw[hh]at ha;cases ha
      simp only[aA,if_false]at hE
      have kC:es.l.length*sz<=arr.size:=by
       by_cases he:es.l.length=0
       ·rw[he];omega
       ·have:=Z5x hE h0 (show es.l.length-1<es.l.length by omega)
        have e1:es.l.length*sz=(es.l.length-1)*sz+sz:=by rw[show es.l.length*sz=(es.l.length-1+1)*sz by congr 1;omega,bF]
        omega
      have VJ:k<=ys.l.length/\k<=n:=by omega
      have my:o*sz+0+(news.take (k*sz)).length<=arr.size:=by
       have h1:(o+k)*sz<=es.l.length*sz:=bD _ (by omega)
       rw[bK]at h1
       rw[aD];omega
      have hlen:(news.take (k*sz)).length=k*sz:=by
       have:=bD sz VJ.1
       rw[aD];omega
      have jQ:=run_storeCells_at (P:=P) (c.ρ r) (o*sz) jM (news.take (k*sz)) 0 arr w hh my (λu hu=>ij.one s4 s1 u (List.mem_of_mem_take hu))
      have ie:=Zkm (P:=P) w (ty:=ty) (tx:=tx) (a:=some ⟨c.ρ r,o*sz,none⟩) (n:=n) (cap:=cap) (news:=news.take (k*sz)) (w':=w.setRow (c.ρ r) (arr.toList.take (o*sz+0)++news.take (k*sz)++arr.toList.drop (o*sz+0+(news.take (k*sz)).length)).toArray) hk.1 pn s2 (by rw[Bm,<-uM];exact s3 k VJ.1 w rfl) (λb hb=>by cases hb;simpa using jQ) (λh=>by cases h)
      have uP:iQ.l.length=es.l.length:=by rw[HC];simp only[lA,aD,aG];omega
      have hw:=hm.write (ao:=⟨false,jM,sz,iQ⟩) cz hV hh (arr:=(arr.toList.take (o*sz+0)++news.take (k*sz)++arr.toList.drop (o*sz+0+(news.take (k*sz)).length)).toArray)
       (by simp only[aK,lA,aD,aG,Array.length_toList];simp only[aD]at my;omega) rfl rfl rfl uP
      have iY:=hw.2 ⟨h0,by
       simp only[aA,if_false]
       rw[HC]
       refine nh (λb hb=>⟨hb,(hw.1.I b hb).2⟩) _ _ _ _ ?_
       have p1:=Zcj (k:=o) (I:=c.I) (w:=w) (news:=arr.toList) (es:=es.l) (sz:=sz) (by simpa using hE) (by omega)
       have p2:=Zcj (k:=k) s4 VJ.1
       have p3:=Zrm (k:=o+k) hE
       have l1:(arr.toList.take (o*sz)).length=(es.l.take o).length*sz:=by
        have:=bD sz (show o<=es.l.length by omega)
        rw[aD,aD,show min o es.l.length=o by omega,show arr.toList.length=arr.size from rfl];omega
       have q1:=Z1a p1 l1 p2
       have l2:(arr.toList.take (o*sz)++news.take (k*sz)).length=(es.l.take o++ys.l.take k).length*sz:=by
        rw[lA,l1,hlen,lA,bK,aD (l:=ys.l),show min k ys.l.length=k by omega]
       have q2:=Z1a q1 l2 p3
       have e2:o*sz+0+(news.take (k*sz)).length=(o+k)*sz:=by rw[hlen,bK];omega
       rw[e2]
       simpa using q2⟩
      refine⟨_,_,c.jJ r ⟨false,jM,sz,iQ⟩,ie,⟨iY,hw.1,(RO w _ _).mono λb _ hb=>⟨r,_,cz,hV,hb.symm⟩,λb hb=>.inl hb,λq ao hq v=>.inl ⟨?_,v,rfl⟩⟩,λq=>?_,by rw[uM]⟩
      ·by_cases e:q=r
       ·exact⟨_,by rw[e];exact cz⟩
       ·exact⟨ao,by simpa[Ctx.jJ,e]using hq⟩
      ·rw[FI hr]
       simp only[Ctx.jJ]
       split
       ·rfl
       ·exact hR q
    cases x<;>simp only at h
    case all r=>
     split at h
     ·rename_i jM s es hr
      simp only[de,mV]at h
      have hs:=bE h.1
      subst hs
      refine⟨_,_,h.2,λc w vx vy hm hR hx hy=>?_⟩
      obtain⟨row,q1,q2,hv⟩:=hx
      have cz:row=⟨false,jM,s,es⟩:=by rw[hR,hr]at q1;exact(Option.some.inj q1).symm
      subst cz
      have jD:(es.l.length=0/\∃a,vx=.slice a 0 0)\/(¬c.V r/\∃cap arr,vx=.slice (some ⟨c.ρ r,0*s,none⟩) es.l.length cap/\w.heap[c.ρ r]?=some (.cells arr jM (0,0))):=by
       rcases hv with⟨hV,a,hv,_⟩|⟨hV,cap,arr,hv,h1,h2,h3,h4⟩
       ·have:=(hm.nf q1 hV).2.1
        simp only at this
        exact .inl ⟨by rw[this];rfl,a,hv⟩
       ·exact .inr ⟨hV,cap,arr,by rw[Nat.zero_mul];exact hv,h3⟩
      obtain⟨v',w',c',p1,p2,p3,p4⟩:=core r 0 es.l.length _ jM es ((ys.take (min ys.len es.len)).app (es.drop (min ys.len es.len))) (by rw[ah.jU,ah.iT,ah.j8,ah.ir,ah.ir];simp) hr rfl (by omega) c w vx vy hm hR jD hy
      exact⟨v',w',c',p1,p2,p3,by rw[p4,ah.ir,ah.ir];rfl⟩
     ·exact h.elim
    case own r o n=>
     split at h
     ·rename_i jM s es hr
      simp only[de,mV]at h
      have hs:=bE h.1
      subst hs
      refine⟨_,_,h.2,λc w vx vy hm hR hx hy=>?_⟩
      obtain⟨row,q1,q2,ho,hv⟩:=hx
      have cz:row=⟨false,jM,s,es⟩:=by rw[hR,hr]at q1;exact(Option.some.inj q1).symm
      subst cz
      have jD:(n=0/\∃a,vx=.slice a 0 0)\/(¬c.V r/\∃cap arr,vx=.slice (some ⟨c.ρ r,o*s,none⟩) n cap/\w.heap[c.ρ r]?=some (.cells arr jM (0,0))):=by
       rcases hv with⟨h0,a,hv,_⟩|⟨hV,cap,arr,h1,h2,h3,hv,h4⟩
       ·exact .inl ⟨h0,a,hv⟩
       ·exact .inr ⟨hV,cap,arr,hv,h3⟩
      obtain⟨v',w',c',p1,p2,p3,p4⟩:=core r o n _ jM es (((es.take o).app (ys.take (min ys.len n))).app (es.drop (o+min ys.len n))) (by rw[ah.jU,ah.jU,ah.iT,ah.iT,ah.j8,ah.ir]) hr rfl ho c w vx vy hm hR jD hy
      exact⟨v',w',c',p1,p2,p3,by rw[p4,ah.ir];rfl⟩
     ·exact h.elim
   ·exact h.elim
  ·exact h.elim
 ·exact h.elim
theorem Zog{mx:Bool}{x y:D}{K:D->Prop}(h:uQ mx x y K):∃val,K val/\∀(P:Program) c w vx vy,Rep c w x vx->Rep c w y vy->∃u,((mx=false->∀dk ty,(Builtin.min_ dk ty #[vx,vy]).run P w=.ok u w)/\(mx=true->∀dk ty,(Builtin.max_ dk ty #[vx,vy]).run P w=.ok u w))/\Rep c w val u:=by
 unfold uQ at h
 split at h
 ·rename_i k a k' b
  simp only[de,decide_eq_true_eq]at h
  obtain⟨rfl,h⟩:=h
  refine⟨_,h,λP c w vx vy hx hy=>⟨_,⟨λe dk ty=>?_,λe dk ty=>?_⟩,rfl⟩⟩
  ·subst e
   rw[Rep.int.1 hx,Rep.int.1 hy]
   simp[Builtin.min_,Builtin.min2]
  ·subst e
   rw[Rep.int.1 hx,Rep.int.1 hy]
   simp[Builtin.max_,Builtin.max2]
 ·exact h.elim
theorem Zke{P:Program}{T:e7}(hT:jb P T){t:TypeId}{es:ah}{K:D->Prop}(h:JS T t es K):K (.mF es)/\∀c w vx vy,(∃a n cap,vx=.slice a n cap/\(a=none->es.l=[]))->Rep c w .c8 vy->∃u,(∀x y,(do eqGuard .eql t x y vx vy;binOp .eql t vx vy).run P w=.ok u w)/\Rep c w (.mF es) u:=by
 unfold JS at h
 split at h
 ·rename_i e n _ _ _ _ _ ht
  have hk:=mm hT ht
  simp only at hk
  refine⟨h,λc w vx vy hx hy=>?_⟩
  obtain⟨a,len,cap,hv,gx⟩:=hx
  rw[show vy=_ from hy,hv]
  refine⟨.bool a.isNone,λx y=>?_,a.isNone,rfl,λe'=>?_⟩
  ·have hg:(eqGuard .eql t x y (.slice a len cap) (.slice none 0 0)).run P w=.ok () w:=rfl
   rw[Sem.run_bind,hg]
   simp only[Result.andThen_ok,binOp]
   simp only[run_equal_slice_nil w t e a len cap hk.1,Sem.run_bind,Result.andThen_ok,Sem.run_pure]
  ·exact gx (by cases a<;>simp_all)
 ·exact h.elim
theorem xG{P:Program}{T:e7}(hT:jb P T){t:TypeId}{es:ah}{K:D->Prop}(h:JS T t es K):K (.mF es)/\∀s fr c w vx vy,Rep c w (.sl s es fr) vx->Rep c w .c8 vy->∃u,(∀x y,(do eqGuard .eql t x y vx vy;binOp .eql t vx vy).run P w=.ok u w)/\Rep c w (.mF es) u:=by
 obtain⟨h1,h2⟩:=Zke hT h
 refine⟨h1,λs fr c w vx vy hx hy=>h2 c w vx vy ?_ hy⟩
 obtain⟨a,cap,hv,hc,gx⟩:=hx
 refine⟨a,_,cap,hv,λha=>?_⟩
 rcases gx with gx|⟨b,off,arr,ty,fz,hb,_⟩
 ·exact gx
 ·rw[ha]at hb;cases hb
theorem ya{P:Program}{T:e7}(hT:jb P T){t:TypeId}{R:Rows}{r:Nat}{bx:Bool}{jM jV:Nat}{es:ah}(hR:R.getD r none=some ⟨bx,jM,jV,es⟩){K:D->Prop}(h:JS T t es K):K (.mF es)/\∀c w vx vy,Mem c w->lR c R->Rep c w (.all r) vx->Rep c w .c8 vy->∃u,(∀x y,(do eqGuard .eql t x y vx vy;binOp .eql t vx vy).run P w=.ok u w)/\Rep c w (.mF es) u:=by
 obtain⟨h1,h2⟩:=Zke hT h
 refine⟨h1,λc w vx vy hm hA hx hy=>h2 c w vx vy ?_ hy⟩
 obtain⟨row,g1,g2,hv⟩:=hx
 have:=hA r row _ g1 hR
 subst this
 rcases hv with⟨hV,a,hv,_⟩|⟨hV,cap,arr,hv,_⟩
 ·exact⟨a,0,0,hv,λ_=>(hm.nf g1 hV).2.1⟩
 ·exact⟨_,_,cap,hv,λe=>by cases e⟩
theorem Zsw{I:ab}{w:World}{l:List Int}{news:List Value}(h:ij I w (ah.ints .u8 l).l news.toArray 0 1)(hl:news.length=(ah.ints .u8 l).l.length*1):news=l.map (Value.int .u8):=by
 have pq:news.length=l.length:=by simpa[ah.len]using hl
 apply List.ext_getElem?
 intro i
 by_cases hi:i<l.length
 ·obtain⟨h1,h2⟩:=sW.1 h i (by simpa[ah.len]using hi)
  rw[ah.mW _ (show i<(ah.ints .u8 l).len from hi)]at h2
  simp only[ah.get,Df,Dg,rS,rT,rU,rV,rW,rY,sY,tJ,tK,tL,tM,tN,Q6,tO,tP,tQ,and_true]at h2
  obtain⟨v,hv,hp⟩:=h2
  simp only[bG,Nat.mul_one,aB,bH]at hv
  rw[hv,hp]
  simp[aV,hi]
 ·rw[aJ (by omega),aJ (by simp;omega)]
theorem zG{P:Program}{T:e7}(hT:jb P T){s e d:TypeId}{n a1 a2:Nat}{a3:List pO}{a4:Option (List D)}{a5:Bool}(hs:T.get s=some ⟨.slice e n,a1,a2,a3,a4,a5⟩){x:D}{R:Rows}{K:D->Prop}(h:uR T e d x R K):
 ∃val,K val/\∀c w v,Mem c w->lR c R->Rep c w x v->FJ P (convert s d v) w c val:=by
 unfold uR at h
 split at h
 ·rename_i he hd
  have mQ:=mm hT hs
  have ri:=mm hT he
  have JT:=mm hT hd
  simp only at mQ ri JT
  split at h
  ·rename_i sy es jL
   split at h
   rotate_left
   ·exact h.elim
   rename_i l hto
   have FK:=ah.toI_l hto
   simp only[de,aT]at h
   obtain⟨h5,h⟩:=h
   have h5:sy=1\/es.l=[]:=h5.imp bE R4
   refine⟨_,h,λc w v hm hA hr=>?_⟩
   have hsl:∃a cap,v=.slice a es.l.length cap:=by
    cases x<;>simp only[r3]at jL<;>try(cases jL;done)
    case c8=>cases jL;exact⟨none,0,hr⟩
    case emp=>cases jL;obtain⟨a,hr,_⟩:=hr;exact⟨a,0,hr⟩
    case sl=>cases jL;obtain⟨a,cap,hv,_⟩:=hr;exact⟨a,cap,hv⟩
    case all r=>
     split at jL
     ·rename_i jM s' iQ hR
      cases jL
      obtain⟨row,g1,g2,hv⟩:=hr
      have:=hA r row _ g1 hR
      subst this
      rcases hv with⟨hV,a,hv,_⟩|⟨hV,cap,arr,hv,_⟩
      ·have he:=(hm.nf g1 hV).2.1
       simp only at he
       exact⟨a,0,by rw[he];exact hv⟩
      ·exact⟨_,cap,hv⟩
     ·cases jL
    case own r o m=>
     split at jL
     ·rename_i jM s' iQ hR
      cases jL
      obtain⟨row,g1,g2,g5,hv⟩:=hr
      have:=hA r row _ g1 hR
      subst this
      simp only at g5
      have hlen:((iQ.drop o).take m).l.length=m:=by rw[ah.iT,ah.j8];simp only[aD,aG];omega
      rw[hlen]
      rcases hv with⟨h0,a,hv,_⟩|⟨hV,cap,arr,_,_,_,hv,_⟩
      ·subst h0;exact⟨a,0,hv⟩
      ·exact⟨_,cap,hv⟩
     ·cases jL
   obtain⟨a,cap,hv⟩:=hsl
   subst hv
   obtain⟨news,s1,s2,s3,s4⟩:=v7 (P:=P) (by omega) jL h5 hm hA hr
   rw[FK]at s1 s4
   have hn:=Zsw s4 s1
   have hlen:es.l.length=l.length:=by rw[FK];simp[ah.len]
   have hf:=s3 es.l.length (aX _) w rfl
   rw[List.take_of_length_le (by rw[hn,hlen];simp)]at hf
   refine⟨.string ⟨(bytesOf l).toArray⟩,?_,rfl⟩
   rw[run_convert_bytes_string w s d e a es.l.length cap mQ.1 ri JT]
   cases a with
   |none=>
    simp only[Builtin.firstCells,Sem.run_pure,Result.ok.injEq,and_true]at hf
    have h1:news=[]:=by
     have:=congrArg Array.toList hf
     simpa using this.symm
    have he:l=[]:=by rw[h1]at hn;simpa using hn.symm
    subst he
    simp only[Conv.bytesToString,Sem.run_pure,bytesOf,List.map_nil]
    rfl
   |some a=>
    simp only[Builtin.firstCells,Nat.mul_one]at hf
    rw[hn]at hf
    rw[run_bytesToString w a es.l.length cap _ hf,foldl_push_bytes]
    have he0:ByteArray.empty.data= #[]:=rfl
    rw[he0]
    simp[bytesOf]
  ·exact h.elim
 ·exact h.elim
structure wK(c0:Ctx)(w0:World)(c:Ctx)(w:World):Prop where
 cy:iW c0 w0 c w
 fr:Fr (λb=>(∃r x,c0.R r=some x/\¬c0.V r/\c0.ρ r=b)\/c0.X b) w0 w
 ff:∀b,c.I b->c0.I b\/c0.X b\/w0.heap.size<=b
 nU:∀r row,c.R r=some row->¬c.V r->((∃x,c0.R r=some x)/\¬c0.V r/\c.ρ r=c0.ρ r)\/c0.X (c.ρ r)\/w0.heap.size<=c.ρ r
 xb:∀b,c0.X b->c0.base<=b
theorem wK.refl(c:Ctx)(w:World):wK {c with X:=λ_=>False} w c w:=
 ⟨⟨rfl,aX _,λ_ h=>⟨h,rfl⟩,λ_ row h=>⟨row,h,rfl,rfl,rfl,rfl,rfl,Iff.rfl,λ_ arr h=>⟨arr,h,rfl⟩⟩⟩,Fr.refl _ w,λ_ h=>.inl h,λ_ row h v=>.inl ⟨⟨row,h⟩,v,rfl⟩,λ_ h=>h.elim⟩
theorem Zn{c0 c:Ctx}{w0 w:World}{M:Nat}{ks:List Nat}(hM:∀k,cv k ks=true->M<=k)(DS:∀r row,c0.R r=some row->r<M)(h:iW c0 w0 c w):iW c0 w0 (c.kill ks) w:=by
 refine⟨h.base,h.top,h.I,λr row hr=>?_⟩
 obtain⟨ao,g1,g2,g3,g4,g5,g6,gV,g7⟩:=h.R r row hr
 obtain⟨s1,s2,s3,s4⟩:=Q5 ks ao
 have bg:=DS r row hr
 refine⟨ao.kill ks,?_,s1.trans g2,s2.trans g3,s3.trans g4,s4.trans g5,g6,gV,g7⟩
 simp only[Ctx.kill]
 rw[if_neg (λe=>by have:=hM r e;omega),g1];rfl
theorem wK.step{c0 c c':Ctx}{w0 w w':World}{M:Nat}{ks:List Nat}(hM:∀k,cv k ks=true->M<=k)(DS:∀r row,c0.R r=some row->r<M)(h:wK c0 w0 c w)(n:jE ks c w c' w'):wK c0 w0 c' w':=by
 have Bn:∀s x,cv s ks=true->c.R s=some x->¬c.V s->c0.X (c.ρ s)\/w0.heap.size<=c.ρ s:=λs x hs hx v'=>by
  rcases h.nU s x hx v' with⟨⟨y,hy⟩,_⟩|e'
  ·have:=DS s y hy;have:=hM s hs;omega
  ·exact e'
 refine⟨(Zn hM DS h.cy).trans n.cy,⟨n.fr.os.trans h.fr.os,n.fr.tape.trans h.fr.tape,n.fr.output.trans h.fr.output,bL h.fr.size n.fr.size,λb hb hx=>?_⟩,λb hb=>?_,λr row hr hv=>?_,h.xb⟩
 ·have bg:b<w.heap.size:=bM hb h.fr.size
  refine(n.fr.heap b bg fun⟨r,x,hr,v,e⟩=>?_).trans (h.fr.heap b hb hx)
  rcases h.nU r x hr v with⟨⟨y,hy⟩,v',e'⟩|e'|e'
  ·exact hx (.inl ⟨r,y,hy,v',by rw[<-e',e]⟩)
  ·exact hx (.inr (by rw[<-e];exact e'))
  ·omega
 ·rcases n.ff b hb with h1|⟨s,x,hs,hx,v',e⟩|h1
  ·exact h.ff b h1
  ·rcases Bn s x hs hx v' with h1|h1
   ·exact .inr (.inl (by rw[<-e];exact h1))
   ·exact .inr (.inr (by omega))
  ·have:=h.fr.size;exact .inr (.inr (by omega))
 ·rcases n.nU r row hr hv with⟨⟨x,hx⟩,v',e⟩|⟨s,x,hs,hx,v',e⟩|e
  ·rcases h.nU r x hx v' with⟨h1,h2,e'⟩|e'|e'
   ·exact .inl ⟨h1,h2,e.trans e'⟩
   ·exact .inr (.inl (by rw[e];exact e'))
   ·exact .inr (.inr (by omega))
  ·rcases Bn s x hs hx v' with h1|h1
   ·exact .inr (.inl (by rw[e];exact h1))
   ·exact .inr (.inr (by omega))
  ·have:=h.fr.size;exact .inr (.inr (by omega))
def lK(n:Nat)(w:World)(ds:List Deferred):Prop:=∃bs:List Nat,bs.Nodup/\ds=bs.map (λb=>({target:=.collected b,args:= #[]}:Deferred))/\∀b∈bs,n<=b/\w.heap[b]?=some (.deferred (some []))
theorem lK.nil{n:Nat}{w:World}:lK n w []:=⟨[],List.nodup_nil,rfl,λb hb=>by simp at hb⟩
theorem lK.to{n:Nat}{w w':World}{ds:List Deferred}(h:lK n w ds)(hf:∀b:Nat,w.heap[b]?=some (Obj.deferred (some []))->w'.heap[b]?=some (Obj.deferred (some []))):lK n w' ds:=by
 obtain⟨bs,h1,h2,h3⟩:=h
 exact⟨bs,h1,h2,λb hb=>⟨(h3 b hb).1,hf b (h3 b hb).2⟩⟩
theorem lK.step{n:Nat}{c:Ctx}{w w':World}{ds:List Deferred}(h:lK n w ds)(hm:Mem c w)(hf:Fr (λb=>∃r x,c.R r=some x/\¬c.V r/\c.ρ r=b) w w'):lK n w' ds:=by
 refine h.to λb h2=>(hf.heap b (Array.getElem?_eq_some_iff.1 h2).1 fun⟨r,x,hr,hV,e⟩=>?_).trans h2
 rcases hm.row r x hr with h3|⟨_,arr,h3,_⟩
 ·exact hV h3.1
 ·rw[e,h2]at h3;cases h3
theorem lK.put{n:Nat}{w:World}{a:Act}{dst:Option Tmp}{v:Value}(h:lK n w a.defers):lK n w (a.put dst v).defers:=by
 cases dst<;>exact h
structure fg(N M:Nat)(c0:Ctx)(w0:World)(c:Ctx)(w:World)(st:St)(a:Act):Prop where
 mem:Mem c w
 rows:∀r,c.R r=st.rows.getD r none
 env:∀t,Rep c w (look st.env t) (a.tmps.getD t undef)
 size:N<=a.tmps.size
 defers:lK w0.heap.size w a.defers
 fw:c0.base<=w0.heap.size
 gp:∀r row,c0.R r=some row->r<M
 reach:wK c0 w0 c w
theorem fg.base{N M:Nat}{c0:Ctx}{w0:World}{c:Ctx}{w:World}{st:St}{a:Act}(h:fg N M c0 w0 c w st a):c.base<=w.heap.size:=by
 rw[h.reach.cy.base];exact bL h.fw h.reach.fr.size
theorem JO{c:Ctx}{w:World}{env:List (Nat×D)}{a:Act}(f:Nat):Rep c w (cj env (.func f)) (a.eval (.func f)):=by
 simp only[cj,Act.eval]
 cases h:bN f YB with
 |false=>trivial
 |true=>exact⟨[],.inl ⟨lE h,rfl⟩,trivial⟩
theorem ME{c:Ctx}{w:World}{env:List (Nat×D)}{a:Act}(h:∀t,Rep c w (look env t) (a.tmps.getD t undef))(x:Operand):Rep c w (cj env x) (a.eval x):=by
 cases x with
 |tmp t=>exact h t
 |const v=>
  simp only[cj,Act.eval]
  cases hv:FG v with
  |none=>trivial
  |some d=>exact MC hv c w
 |global g=>trivial
 |func f=>exact JO f
def rM(env:List (Nat×D))(dst:Option Tmp)(d:D):List (Nat×D):=match dst with|none=>env|some t=>(t,d)::env
theorem Qc(env:List (Nat×D))(t:Nat)(d:D)(s:Nat):look ((t,d)::env) s=if t=s then d else look env s:=by
 simp only[look]
 cases hb:Nat.beq t s with
 |true=>rw[if_pos (bE hb)]
 |false=>rw[if_neg (λe=>by rw[e]at hb;simp at hb)]
theorem Zch{c:Ctx}{w:World}{env:List (Nat×D)}{a:Act}{N:Nat}(hN:N<=a.tmps.size){dst:Option Tmp}(hd:∀t,dst=some t->t<N){d:D}{v:Value}(h:∀t,Rep c w (look env t) (a.tmps.getD t undef))(hv:Rep c w d v)(t:Nat):
 Rep c w (look (rM env dst d) t) ((a.put dst v).tmps.getD t undef):=by
 cases dst with
 |none=>exact h t
 |some s=>
  have hs:=hd s rfl
  simp only[rM,Act.put,Qc]
  by_cases e:s=t
  ·subst e
   rw[if_pos rfl]
   have bg:s<a.tmps.size:=bM hs hN
   simpa[aY,bg]using hv
  ·rw[if_neg e]
   have:=h t
   simpa[Array.getElem?_setIfInBounds_ne e]using this
def jk:List Operand->Nat
 |[]=>1
 |.tmp t::l=>t+1+jk l
 |_::l=>jk l
theorem VK:∀{l:List Operand},0<jk l
 |[]=>by simp[jk]
 |x::l=>by cases x<;>simp only[jk]<;>have:=VK (l:=l)<;>omega
theorem R5{t:Nat}:∀{l:List Operand},.tmp t∈l->t<jk l
 |x ::l,h=>by
  rcases List.mem_cons.1 h with e|e
  ·subst e;simp only[jk];omega
  ·have:=R5 e
   cases x<;>simp only[jk]<;>omega
def FL(B:Nat):List iq->List (Nat×D)
 |[]=>[]
 |x::l=>(B,x.d)::FL (B+1) l
theorem MF{env:List (Nat×D)}:∀{cs:List iq} {B t:Nat},look (FL B cs++env) t=if h:B<=t/\t-B<cs.length then(cs[t-B]'h.2).d else look env t
 |[],B,t=>by simp[FL]
 |x ::l,B,t=>by
  simp only[FL,List.cons_append,Qc,MF (cs:=l) (B:=B+1)]
  by_cases e:B=t
  ·subst e;simp
  ·rw[if_neg e]
   by_cases h:B+1<=t/\t-(B+1)<l.length
   ·rw[dif_pos h,dif_pos (by simp;omega)]
    have:t-B=(t-(B+1))+1:=by omega
    simp only[this,List.getElem_cons_succ]
   ·rw[dif_neg h,dif_neg (by simp;omega)]
def DT(args:Array Operand)(n:Nat):Array Operand:=(args.toList++(bO (jk args.toList) n).map Operand.tmp).toArray
def sZ(a:Act)(B:Nat)(us:List Value):Act:={tmps:=((List.range B).map (λi=>a.tmps.getD i undef)++us).toArray,defers:=[]}
theorem Zhw{a:Act}{B:Nat}{us:List Value}{t:Nat}(h:t<B):(sZ a B us).tmps.getD t undef=a.tmps.getD t undef:=by
 simp[sZ,aY,h,List.getElem_append]
 omega
theorem Zhi{a:Act}{B:Nat}{us:List Value}{i:Nat}:(sZ a B us).tmps.getD (B+i) undef=us.getD i undef:=by
 simp only[sZ,Array.getD_eq_getD_getElem?,bH]
 rw[bJ (by simp)]
 simp[aV]
theorem oy.length{c:Ctx}{w:World}:∀{cs:List iq} {us:List Value},oy c w cs us->us.length=cs.length
 |[],[],_=>rfl
 |_::_,_::_,h=>by simp[oy.length h.2]
 |[],_::_,h=>h.elim
 |_::_,[],h=>h.elim
theorem oy.get{c:Ctx}{w:World}:∀{cs:List iq} {us:List Value},oy c w cs us->∀i (h:i<cs.length),R6 c w (cs[i]'h) (us.getD i undef)
 |[],[],_,i,h=>by simp at h
 |_::_,_::_,h,0,_=>by simpa using h.1
 |_::_,_::_,h,i+1,hi=>by simpa using oy.get h.2 i (by simpa using hi)
 |[],_::_,h,_,_=>h.elim
 |_::_,[],h,_,_=>h.elim
theorem Zbn{env:List (Nat×D)}{args:Array Operand}{cs:List iq}:(DT args cs.length).toList.map (cj (FL (jk args.toList) cs++env))=args.toList.map (cj env)++cs.map iq.d:=by
 simp only[DT,bP]
 congr 1
 ·refine bQ λx hx=>?_
  cases x with
  |tmp t=>simp only[cj,MF];rw[dif_neg (by have:=R5 hx;omega)]
  |_=>rfl
 ·refine bR (by simp) λi h1 h2=>?_
  have:i<cs.length:=by simpa using h2
  simp only[bS,bT,cj,MF]
  rw[dif_pos (by omega)]
  congr 1
  simp
theorem Z15{a:Act}{args:Array Operand}{us:List Value}:(DT args us.length).toList.map (sZ a (jk args.toList) us).eval=args.toList.map a.eval++us:=by
 simp only[DT,bP]
 congr 1
 ·refine bQ λx hx=>?_
  cases x with
  |tmp t=>exact Zhw (R5 hx)
  |_=>rfl
 ·refine bR (by simp) λi h1 h2=>?_
  have:i<us.length:=h2
  simp only[bS,bT,Act.eval,Nat.one_mul]
  rw[Zhi]
  simp[aV,this]
theorem Bo{c:Ctx}{w:World}{env:List (Nat×D)}{a:Act}{args:Array Operand}{cs:List iq}{us:List Value}(hl:∀x∈args.toList,Rep c w (cj env x) (a.eval x))(hc:oy c w cs us):∀x∈(DT args cs.length).toList,Rep c w (cj (FL (jk args.toList) cs++env) x) ((sZ a (jk args.toList) us).eval x):=by
 intro x hx
 simp only[DT,List.mem_append,List.mem_map]at hx
 rcases hx with hx|⟨t,ht,rfl⟩
 ·have:=hl x hx
  cases x with
  |tmp t=>
   have bg:=R5 hx
   simp only[cj,MF,Act.eval]
   rw[dif_neg (by omega),Zhw bg]
   exact this
  |_=>exact this
 ·rw[List.mem_range'_1]at ht
  obtain⟨i,hi,rfl⟩:∃i:Nat,i<cs.length/\t=jk args.toList+i:=⟨t-jk args.toList,Nat.sub_lt_left_of_lt_add ht.1 ht.2,(Nat.add_sub_cancel' ht.1).symm⟩
  have h2:=oy.get hc i hi
  have h3:look (FL (jk args.toList) cs++env) (jk args.toList+i)=(cs[i]'hi).d:=by
   rw[MF,dif_pos ⟨by omega,by omega⟩]
   congr 1
   simp
  simp only[cj,Act.eval]
  rw[h3,Zhi]
  exact Rep.JU (VRep.DU (VL.1 h2))
theorem xaz{P:Program}{f:FuncId}(he:∀args w,(callFunc f args).run P w=.ok (.enter f args) w){dst:Option Tmp}{t:Tmp}{args:Array Operand}{dk:Array TypeId}{type:TypeId}{pos:String}{after:Array Edge}{guard:Option (Nat×Bool)}{a:Act}{w:World}{us:List Value}
 (ht:a.eval (.tmp t)=.func (.func f) #[] us.toArray) {K:Act->World->Prop} {Q:Exit->Act->World->Prop}
 (h:(⟨some 0,.call ⟨.value (.func f),DT args us.length,dk⟩,type,pos,after,guard⟩:Oper).mU P (sZ a (jk args.toList) us) w (λa' w'=>K (a.put dst (a'.tmps.getD 0 undef)) w') (λ_ _ _=>False)):
 (⟨dst,.call ⟨.value (.tmp t),args,dk⟩,type,pos,after,guard⟩:Oper).mU P a w K Q:=by
 have hv:=Z15 (a:=a) (args:=args) (us:=us)
 have r1:(execOp (sZ a (jk args.toList) us).eval (⟨some 0,.call ⟨.value (.func f),DT args us.length,dk⟩,type,pos,after,guard⟩:Oper)).run P w=.ok (.enter f (args.toList.map a.eval++us).toArray) w:=by
  simp only[execOp,resolve,Act.eval,Deferred.ofValue,Sem.run_bind,Sem.run_pure,Result.andThen_ok,invoke,bU,Array.append_empty]
  rw[he,<-hv,<-bV,bW]
 have r2:(execOp a.eval (⟨dst,.call ⟨.value (.tmp t),args,dk⟩,type,pos,after,guard⟩:Oper)).run P w=.ok (.enter f (args.toList.map a.eval++us).toArray) w:=by
  simp only[execOp,resolve,ht,Deferred.ofValue,Sem.run_bind,Sem.run_pure,Result.andThen_ok,invoke,bU]
  rw[he]
  congr 2
  rw[<-List.append_toArray,<-bV,bW]
 have bg:0<(sZ a (jk args.toList) us).tmps.size:=by have:=VK (l:=args.toList);simp[sZ];omega
 unfold Oper.mU at h⊢
 rw[r1]at h
 rw[r2]
 refine Calls.mono h λe w' ⟨v,he,hp⟩=>⟨v,he,?_⟩
 have:((sZ a (jk args.toList) us).put (some 0) v).tmps.getD 0 undef=v:=by
  simp only[Act.put]
  simp[aY,bg]
 simp only[this]at hp
 exact hp
theorem yG{P:Program}{dst:Option Tmp}{t:Tmp}{args:Array Operand}{dk:Array TypeId}{type:TypeId}{pos:String}{after:Array Edge}{guard:Option (Nat×Bool)}{a:Act}{w:World}{l:Nat}{rec:Loop}
 (ht:a.eval (.tmp t)=.func (.yield l) #[] #[]) (hl:w.heap[l]?=some (.loop rec)) {K:Act->World->Prop} {Q:Exit->Act->World->Prop} (hs:(args.toList.map a.eval).length=rec.params.size)
 (h:RoundIn Fence.wide 0 P l rec.fn ((rec.params.zip (args.toList.map a.eval).toArray).foldl (λtmps (t,a)=>tmps.setIfInBounds t a) rec.tmps) rec.assign rec.body w λe w'=>∃v,e=.returned v/\K (a.put dst v) w'):
 (⟨dst,.call ⟨.value (.tmp t),args,dk⟩,type,pos,after,guard⟩:Oper).mU P a w K Q:=by
 have r2:(execOp a.eval (⟨dst,.call ⟨.value (.tmp t),args,dk⟩,type,pos,after,guard⟩:Oper)).run P w=.ok (.round l rec.fn ((rec.params.zip (args.toList.map a.eval).toArray).foldl (λtmps (t,a)=>tmps.setIfInBounds t a) rec.tmps) rec.assign rec.body) w:=by
  simp only[execOp,resolve,ht,Deferred.ofValue,Sem.run_bind,Sem.run_pure,Result.andThen_ok,invoke,bU]
  have hy:=run_yield (P:=P) (args:=(args.toList.map a.eval).toArray) hl (by simpa using hs)
  rw[<-hy,<-bV,bW]
 unfold Oper.mU
 rw[r2]
 exact h
section
variable {P:Program} {G:List ba} {M:Nat} {dst:Option Tmp} {f:FuncId} {t:Tmp} {args:Array Operand} {dk:Array TypeId} {type:TypeId} {pos':String} {after:Array Edge} {guard:Option (Nat×Bool)} {env:List (Nat×D)} {cs:List iq} {R:Rows}
theorem MG{x:ba}(dy:bm P x)(hf:x.f=f)(hy:f<YB)(ht:look env t=.gk f cs){ks:List Nat}{val:D}{R':Rows}
 (h:Bp P ⟨some 0,.call ⟨.value (.func f),DT args cs.length,dk⟩,type,pos',after,guard⟩ (cj (FL (jk args.toList) cs++env)) R ks val R'):Bp P ⟨dst,.call ⟨.value (.tmp t),args,dk⟩,type,pos',after,guard⟩ (cj env) R ks val R':=by
 intro c w a hm hb hR ej K Q hK
 have h1:=ej (.tmp t) (by simp[Op.operands,Call.operands])
 simp only[cj,ht]at h1
 obtain⟨us,⟨_,hv⟩|⟨gu,_⟩,hc⟩:=h1
 rotate_left
 ·exact absurd hy (Nat.not_lt.2 gu)
 have hl:us.length=cs.length:=hc.length
 refine xaz (λaz w=>by rw[<-hf];exact dy.enters (by rw[hf];exact hy) az w) hv ?_
 rw[hl]
 refine h c w _ hm hb hR (λy hy=>?_) _ _ λv w' c' hn jT hr=>?_
 ·have ft:∀x∈args.toList,Rep c w (cj env x) (a.eval x):=λy hy=>ej y (by simp[Op.operands,Call.operands];exact .inr (by simpa using hy))
  simp only[Op.operands,Call.operands]at hy
  rcases Array.mem_append.1 hy with hy|hy
  ·simp at hy;subst hy;exact JO _
  ·exact Bo ft hc y (by simpa using hy)
 ·have bg:0<(sZ a (jk args.toList) us).tmps.size:=by have:=VK (l:=args.toList);simp[sZ];omega
  have:((sZ a (jk args.toList) us).put (some 0) v).tmps.getD 0 undef=v:=by
   simp only[Act.put]
   simp[aY,bg]
  show K (a.put dst (((sZ a (jk args.toList) us).put (some 0) v).tmps.getD 0 undef)) w'
  rw[this]
  exact hK v w' c' hn jT hr
theorem Zqp{K:D->Rows->Prop}(hG:jr P G)(ly:oL G f=none)(ht:look env t=.gk f cs)(h:JV G f (args.toList.map (cj env)++cs.map iq.d) R K):∃val R',K val R'/\Bp P ⟨dst,.call ⟨.value (.tmp t),args,dk⟩,type,pos',after,guard⟩ (cj env) R [] val R':=by
 rw[<-Zbn]at h
 obtain⟨val,R',x,h1,h2,h3,_⟩:=VM (dst:=some 0) (dk:=dk) (type:=type) (pos':=pos') (after:=after) (guard:=guard) hG ly h
 obtain⟨dy,hf⟩:=FM hG h2
 have uS:x.gone=none:=by simpa[oL,h2]using ly
 exact⟨val,R',h1,MG dy hf (by rw[<-hf];exact dy.real uS) ht h3.toK⟩
theorem qb{k:Nat}{K:List Nat->D->Rows->Prop}(hG:jr P G)(rK:(bN f YB||Nat.beq args.size 1)=true)(ly:oL G f=some k)(ht:look env t=.gk f cs)(h:HD G M f k (args.toList.map (cj env)++cs.map iq.d) R K):∃ks val R',K ks val R'/\(∀j,cv j ks=true->M<=j)/\Bp P ⟨dst,.call ⟨.value (.tmp t),args,dk⟩,type,pos',after,guard⟩ (cj env) R ks val R':=by
 rw[<-Zbn]at h
 by_cases hy:f<YB
 ·obtain⟨ks,val,R',x,h1,h2,h3,h4,h5⟩:=Zpi hG hy (dst:=some 0) (dk:=dk) (type:=type) (pos':=pos') (after:=after) (guard:=guard) ly h
  obtain⟨dy,hf⟩:=FM hG h2
  exact⟨ks,val,R',h1,h4,MG dy hf hy ht h5⟩
 ·obtain⟨ks,val,R',x,h1,h2,h3,h4,h5⟩:=VN hG ly h
  refine⟨ks,val,R',h1,h4,λc w a hm hb hR ej K' Q pP=>?_⟩
  have h1:=ej (.tmp t) (by simp[Op.operands,Call.operands])
  simp only[cj,ht]at h1
  obtain⟨us,⟨bg,_⟩|⟨gu,l,rec,hv,hI,hl,mG⟩,hc⟩:=h1
  ·exact absurd bg hy
  have ft:∀x∈args.toList,Rep c w (cj env x) (a.eval x):=λy hy=>ej y (by simp[Op.operands,Call.operands];exact .inr (by simpa using hy))
  have hlen:us.length=cs.length:=hc.length
  have iR:(args.toList.map a.eval).length=1:=by
   rcases Bool.or_eq_true_iff.1 rK with e|e
   ·exact absurd (lE e) hy
   ·simpa using bE e
  have fq:(args.toList.map a.eval).length=rec.params.size:=by
   obtain⟨_,_,y,_,hp,_,_,_,h1,_⟩:=mG
   rw[hp,h1];exact iR
  exact yG hv hl fq ((h5 c w (sZ a (jk args.toList) us).eval hm hb hR (λy hy=>Bo ft hc y hy) (λv w'=>K' (a.put dst v) w') λv w' c'=>pP v w' c').2 (Nat.le_of_not_lt hy) l rec (args.toList.map a.eval) us (by rw[<-hlen,Z15]) hI hl mG iR)
end
def pr(P:Program)(G:List ba)(M:Nat)(o:Oper)(ev:Operand->D)(R:Rows)(ks:List Nat)(val:D)(R':Rows):Prop:=
 if rO G o.op=true then(∀k,cv k ks=true->M<=k)/\Bp P o ev R ks val R' else ks=[]/\pz P o ev R val R'
theorem pr.toK{P:Program}{G:List ba}{M:Nat}{o:Oper}{ev:Operand->D}{R:Rows}{ks:List Nat}{val:D}{R':Rows}(h:pr P G M o ev R ks val R'):(∀k,cv k ks=true->M<=k)/\Bp P o ev R ks val R':=by
 unfold pr at h
 split at h
 ·exact h
 ·obtain⟨rfl,h⟩:=h
  exact⟨λk hk=>by simp[cv]at hk,h.toW.toK⟩
theorem Az{P:Program}{G:List ba}{M:Nat}{o:Oper}{ev:Operand->D}{R:Rows}{val:D}{R':Rows}(hw:rO G o.op=false)(h:pz P o ev R val R'):pr P G M o ev R [] val R':=by
 unfold pr;rw[hw];exact⟨rfl,h⟩
theorem Bq{P:Program}{G:List ba}{M:Nat}{o:Oper}{ev:Operand->D}{R:Rows}{ks:List Nat}{val:D}{R':Rows}(hw:rO G o.op=true)(hk:∀k,cv k ks=true->M<=k)(h:Bp P o ev R ks val R'):pr P G M o ev R ks val R':=by
 unfold pr;rw[if_pos hw];exact⟨hk,h⟩
def nj(P:Program)(G:List ba)(M:Nat)(ops:Array Oper)(o:Oper)(env:List (Nat×D))(R:Rows)(ks:List Nat)(val:D)(R':Rows):Prop:=
 match o.guard with
 |none=>pr P G M o (cj env) R ks val R'
 |some (j,want)=>∃g,(ops[j]?).bind (·.dst)=some g/\((∃b,look env g=.bool b/\(if b=want then pr P G M o (cj env) R ks val R' else ks=[]/\val=.dw []/\R'=R))\/(look env g=.dw []/\ks=[]/\val=.dw []/\R'=R))
theorem oz{N:Nat}{st:St}{dst:Option Tmp}{d:D}{R:Rows}{K:St->Prop}(h:st.put N dst d R K):(∀t,dst=some t->t<N)/\K ⟨rM st.env dst d,R⟩:=by
 cases dst with
 |none=>exact⟨λt h=>(by cases h),h⟩
 |some t=>
  simp only[St.put,de]at h
  refine⟨λs hs=>?_,h.2⟩
  cases hs
  exact lE h.1
theorem zb(d:D):d.kill []=d:=by
 cases d with
 |agg cs=>show D.agg (D.kf [] cs)=_;rw[VO]
 |gk f cs=>exact VP (.gk f cs)
 |_=>rfl
theorem Zgp:∀{ds:List D},D.pA [] ds=ds
 |[]=>rfl
 |d::l=>by simp[D.pA,zb,Zgp (ds:=l)]
theorem yb(d:D):d.gl []=d:=by
 cases d with
 |dw ds=>show D.dw (D.pA [] ds)=_;rw[Zgp]
 |agg cs=>exact zb (.agg cs)
 |gk f cs=>exact VP (.gk f cs)
 |_=>rfl
theorem ow{env:List (Nat×D)}{t:Nat}:look (rL [] env) t=look env t:=by rw[Br,yb]
theorem Zpr{P:Program}{T:e7}(hT:jb P T){G:List ba}(hG:jr P G){N M:Nat}{o:Oper}{st:St}{K:St->Prop}(h:lz T G N M o st K):
 ∃ks val R' iA,(∀t,look iA t=look (rL ks st.env) t)/\(∀t,o.dst=some t->t<N)/\K ⟨rM iA o.dst val,R'⟩/\pr P G M o (cj st.env) st.rows ks val R':=by
 have plain:(rO G o.op=FN o.op)->(gy T o.op (cj st.env) st.rows λd R=>st.put N o.dst d R K)->∃ks val R' iA,(∀t,look iA t=look (rL ks st.env) t)/\(∀t,o.dst=some t->t<N)/\K ⟨rM iA o.dst val,R'⟩/\pr P G M o (cj st.env) st.rows ks val R':=by
  intro hw h
  obtain⟨val,R',hK,hO⟩:=MH hT o _ _ _ h
  obtain⟨h1,h2⟩:=oz hK
  refine⟨[],_,_,st.env,λt=>ow.symm,h1,h2,?_⟩
  split at hO
  ·rename_i hs
   exact Bq (hw.trans hs) (λk hk=>by simp[cv]at hk) hO.toK
  ·rename_i hs
   exact Az (by rw[hw];simpa using hs) hO
 unfold lz at h
 split at h
 ·rename_i cc x y ho
  split at h
  ·rename_i b hb
   have hw:rO G o.op=false:=by rw[ho];rfl
   have go:∀z,z∈o.op.operands->(∀c w (a:Act),Rep c w (cj st.env cc) (a.eval cc)->(execOp a.eval o).run P w=.ok (.value (a.eval z)) w)->(cj st.env z).force (λd=>st.put N o.dst d st.rows K)->
    ∃ks val R' iA,(∀t,look iA t=look (rL ks st.env) t)/\(∀t,o.dst=some t->t<N)/\K ⟨rM iA o.dst val,R'⟩/\pr P G M o (cj st.env) st.rows ks val R':=by
    intro z hz ie h
    rw[D.c7]at h
    obtain⟨h1,h2⟩:=oz h
    exact⟨[],_,_,st.env,λt=>ow.symm,h1,h2,Az hw (mn λc w a hm hA ej=>⟨_,ie c w a (ej cc (by rw[ho];simp[Op.operands])),ej z hz⟩)⟩
   cases b with
   |true=>
    refine go x (by rw[ho];simp[Op.operands]) (λc w a hc=>?_) h
    rw[hb]at hc
    simp only[execOp,ho,Rep.bool.1 hc,asBool,Sem.run_bind,Sem.run_pure,Result.andThen_ok,if_true]
   |false=>
    refine go y (by rw[ho];simp[Op.operands]) (λc w a hc=>?_) h
    rw[hb]at hc
    simp only[execOp,ho,Rep.bool.1 hc,asBool,Sem.run_bind,Sem.run_pure,Result.andThen_ok,aA,if_false]
  ·exact h.elim
 ·rename_i f args dk ho
  obtain⟨dst,op,type,pos,after,guard⟩:=o
  simp only at ho
  subst ho
  split at h
  ·rename_i ly
   split at h
   rotate_left
   ·rename_i DV
    obtain⟨ks,val,R',x,hK,hx,hM,hO⟩:=zS (dst:=dst) (type:=type) (pos':=pos) (after:=after) (guard:=guard) (dk:=dk) hG ly h
    rw[HE]at hK
    obtain⟨h1,h2⟩:=oz hK
    refine⟨ks,_,_,_,λt=>rfl,h1,h2,Bq ?_ hM hO⟩
    have DV:x.oM=true:=by simpa[Bs,hx]using DV
    cases pw:x.refs with
    |nil=>simp only[rO,hx,pw,DV]
    |cons b bs=>simp only[rO,hx,pw]
   rename_i DV
   have HF:∀x,oA G f=some x->x.oM=false:=λx hx=>by simpa[Bs,hx]using DV
   obtain⟨val,R',x,hK,hx,hO,hN⟩:=VM (dst:=dst) (type:=type) (pos':=pos) (after:=after) (guard:=guard) (dk:=dk) hG ly h
   obtain⟨h1,h2⟩:=oz hK
   refine⟨[],_,_,st.env,λt=>ow.symm,h1,h2,?_⟩
   cases hr:x.refs with
   |nil=>exact Az (by simp only[rO,hx,hr,HF x hx]) (hN hr)
   |cons b bs=>exact Bq (by simp only[rO,hx,hr]) (λk hk=>by simp[cv]at hk) hO.toK
  ·rename_i k ly
   obtain⟨hy,h⟩:=de.1 h
   obtain⟨ks,val,R',x,hK,hx,hr,hM,hO⟩:=Zpi hG (lE hy) (dst:=dst) (type:=type) (pos':=pos) (after:=after) (guard:=guard) (dk:=dk) ly h
   rw[HE]at hK
   obtain⟨h1,h2⟩:=oz hK
   refine⟨ks,_,_,_,λt=>rfl,h1,h2,Bq ?_ hM hO⟩
   cases pw:x.refs with
   |nil=>exact(hr pw).elim
   |cons b bs=>simp only[rO,hx,pw]
 ·rename_i t args dk ho
  obtain⟨dst,op,type,pos,after,guard⟩:=o
  simp only at ho
  subst ho
  split at h
  ·rename_i f cs ht
   split at h
   ·rename_i ly
    split at h
    ·obtain⟨val,R',hK,hO⟩:=Zqp (dst:=dst) (type:=type) (pos':=pos) (after:=after) (guard:=guard) (dk:=dk) hG ly ht h
     obtain⟨h1,h2⟩:=oz hK
     exact⟨[],_,_,st.env,λt=>ow.symm,h1,h2,Bq rfl (λk hk=>by simp[cv]at hk) hO⟩
    ·exact h.elim
   ·rename_i k ly
    obtain⟨rK,h⟩:=de.1 h
    obtain⟨ks,val,R',hK,hM,hO⟩:=qb (dst:=dst) (type:=type) (pos':=pos) (after:=after) (guard:=guard) (dk:=dk) hG rK ly ht h
    rw[HE]at hK
    obtain⟨h1,h2⟩:=oz hK
    exact⟨ks,_,_,_,λt=>rfl,h1,h2,Bq rfl hM hO⟩
  ·exact h.elim
 ·rename_i args dk ho
  obtain⟨dst,op,type,pos,after,guard⟩:=o
  simp only at ho
  subst ho
  split at h
  ·rename_i x y t tx hx ht
   have ft:args= #[x,y]:=by rw[<-bW (xs:=args),hx]
   have tR:dk= #[t,tx]:=by rw[<-bW (xs:=dk),ht]
   subst ft;subst tR
   obtain⟨ks,R',hK,hM,hr⟩:=Zow (ty:=type) hT h
   rw[HE]at hK
   obtain⟨h1,h2⟩:=oz hK
   refine⟨ks,_,_,_,λt=>rfl,h1,h2,Bq rfl hM λc w a hm hb hR ej K' Q pP=>?_⟩
   obtain⟨v',w',c',ie,hn,jT,hv⟩:=hr c w _ _ hm hb hR (ej x (by simp[Op.operands,Call.operands])) (ej y (by simp[Op.operands,Call.operands]))
   refine FO ?_ (pP v' w' c' hn jT hv)
   simp only[execOp,resolve,Sem.run_bind,Sem.run_pure,Result.andThen_ok,invoke,builtin]
   have:(#[x,y]:Array Operand).map a.eval= #[a.eval x,a.eval y]:=by simp
   rw[this,ie];rfl
  ·exact h.elim
 ·rename_i args dk ho
  obtain⟨dst,op,type,pos,after,guard⟩:=o
  simp only at ho
  subst ho
  split at h
  ·rename_i x y t tx hx ht
   have ft:args= #[x,y]:=by rw[<-bW (xs:=args),hx]
   have tR:dk= #[t,tx]:=by rw[<-bW (xs:=dk),ht]
   subst ft;subst tR
   obtain⟨val,R',hK,hr⟩:=za (ty:=type) hT h
   obtain⟨h1,h2⟩:=oz hK
   refine⟨[],_,_,st.env,λt=>ow.symm,h1,h2,Bq rfl (λk hk=>by simp[cv]at hk) (DW.toK λc w a hm hb hR ej K' Q pP=>?_)⟩
   obtain⟨v',w',c',ie,hn,jT,hv⟩:=hr c w _ _ hm hR (ej x (by simp[Op.operands,Call.operands])) (ej y (by simp[Op.operands,Call.operands]))
   refine FO ?_ (pP v' w' c' hn jT hv)
   simp only[execOp,resolve,Sem.run_bind,Sem.run_pure,Result.andThen_ok,invoke,builtin]
   have:(#[x,y]:Array Operand).map a.eval= #[a.eval x,a.eval y]:=by simp
   rw[this,ie];rfl
  ·exact h.elim
 ·rename_i args dk ho
  split at h
  ·rename_i x y hx
   obtain⟨val,hK,hr⟩:=Zog h
   obtain⟨h1,h2⟩:=oz hK
   refine⟨[],_,_,st.env,λt=>ow.symm,h1,h2,Az (by rw[ho];rfl) (mn λc w a hm hA ej=>?_)⟩
   have ft:args= #[x,y]:=by rw[<-bW (xs:=args),hx]
   subst ft
   obtain⟨u,hu,hv⟩:=hr P c w _ _ (ej x (by rw[ho];simp[Op.operands,Call.operands])) (ej y (by rw[ho];simp[Op.operands,Call.operands]))
   refine⟨u,?_,hv⟩
   simp only[execOp,ho,resolve,Sem.run_bind,Sem.run_pure,Result.andThen_ok,invoke,builtin]
   have:(#[x,y]:Array Operand).map a.eval= #[a.eval x,a.eval y]:=by simp
   rw[this]
   have hu:=hu.1 rfl dk o.type
   rw[hu];rfl
  ·exact h.elim
 ·rename_i args dk ho
  split at h
  ·rename_i x y hx
   obtain⟨val,hK,hr⟩:=Zog h
   obtain⟨h1,h2⟩:=oz hK
   refine⟨[],_,_,st.env,λt=>ow.symm,h1,h2,Az (by rw[ho];rfl) (mn λc w a hm hA ej=>?_)⟩
   have ft:args= #[x,y]:=by rw[<-bW (xs:=args),hx]
   subst ft
   obtain⟨u,hu,hv⟩:=hr P c w _ _ (ej x (by rw[ho];simp[Op.operands,Call.operands])) (ej y (by rw[ho];simp[Op.operands,Call.operands]))
   refine⟨u,?_,hv⟩
   simp only[execOp,ho,resolve,Sem.run_bind,Sem.run_pure,Result.andThen_ok,invoke,builtin]
   have:(#[x,y]:Array Operand).map a.eval= #[a.eval x,a.eval y]:=by simp
   rw[this]
   have hu:=hu.2 rfl dk o.type
   rw[hu];rfl
  ·exact h.elim
 ·rename_i s d x ho
  split at h
  ·rename_i e _ _ _ _ _ _ hs
   obtain⟨val,hK,hr⟩:=zG hT hs h
   obtain⟨h1,h2⟩:=oz hK
   refine⟨[],_,_,st.env,λt=>ow.symm,h1,h2,Az (by rw[ho];rfl) (mn λc w a hm hA ej=>?_)⟩
   obtain⟨u,hu,hv⟩:=hr c w _ hm hA (ej x (by rw[ho];simp[Op.operands]))
   refine⟨u,?_,hv⟩
   simp only[execOp,ho]
   rw[Sem.run_bind,hu];rfl
  ·rw[<-ho]at h
   exact plain (by rw[ho];rfl) h
 ·rename_i op t x y ty ho
  split at h
  ·rename_i s es fr hx hy
   obtain⟨hK,hr⟩:=xG hT h
   obtain⟨h1,h2⟩:=oz hK
   refine⟨[],_,_,st.env,λt=>ow.symm,h1,h2,Az (by rw[ho];rfl) (mn λc w a hm hA ej=>?_)⟩
   have q1:=ej x (by rw[ho];simp[Op.operands])
   have q2:=ej y (by rw[ho];simp[Op.operands])
   rw[hx]at q1;rw[hy]at q2
   obtain⟨u,hu,hv⟩:=hr s fr c w _ _ q1 q2
   refine⟨u,?_,hv⟩
   simp only[execOp,ho]
   rw[Sem.run_bind,hu x y];rfl
  ·rename_i r hx hy
   split at h
   ·rename_i bx jM jV es hR
    obtain⟨hK,hr⟩:=ya hT hR h
    obtain⟨h1,h2⟩:=oz hK
    refine⟨[],_,_,st.env,λt=>ow.symm,h1,h2,Az (by rw[ho];rfl) (mn λc w a hm hA ej=>?_)⟩
    have q1:=ej x (by rw[ho];simp[Op.operands])
    have q2:=ej y (by rw[ho];simp[Op.operands])
    rw[hx]at q1;rw[hy]at q2
    obtain⟨u,hu,hv⟩:=hr c w _ _ hm hA q1 q2
    refine⟨u,?_,hv⟩
    simp only[execOp,ho]
    rw[Sem.run_bind,hu x y];rfl
   ·exact h.elim
  ·rw[<-ho]at h
   exact plain (by rw[ho];rfl) h
 ·rename_i op n1 n2 n9 n3 n4 n5 n6 n7 n8
  refine plain ?_ h
  unfold rO
  split
  ·rename_i rk;rw[rk];rfl
  ·rename_i rk;exact(n2 _ _ _ rk).elim
  ·rename_i rk;exact(n9 _ _ _ rk).elim
  ·rename_i rk;exact(n3 _ _ rk).elim
  ·rename_i rk;exact(n4 _ _ rk).elim
  ·rename_i m1 m2 m5 m3 m4
   cases rk:o.op<;>first|rfl|exact(m1 _ _ _ rk).elim
theorem R7{st:St}{g:Nat}{b:Bool}(h:look st.env g=.bool b)(t:Nat):look (st.jN (.tmp g) b).env t=look st.env t:=by
 simp only[St.jN,Qc]
 split
 ·rename_i e;subst e;exact h.symm
 ·rfl
theorem Zrz{env lT:List (Nat×D)}(h:∀t,look lT t=look env t):cj lT=cj env:=by
 funext x;cases x<;>first|exact h _|rfl
theorem Vt{P:Program}{T:e7}(hT:jb P T){G:List ba}(hG:jr P G){N M:Nat}{ops:Array Oper}{o:Oper}{l:List Oper}{st:St}{K:St->Prop}(h:lI T G N M ops (o::l) st K):
 ∃ks val R' iA,(∀t,look iA t=look (rL ks st.env) t)/\(∀t,o.dst=some t->t<N)/\nj P G M ops o st.env st.rows ks val R'/\lI T G N M ops l ⟨rM iA o.dst val,R'⟩ K:=by
 simp only[lI]at h
 split at h
 ·rename_i hg
  obtain⟨ks,val,R',iA,h0,h1,h2,h3⟩:=Zpr hT hG h
  exact⟨ks,val,R',iA,h0,h1,by unfold nj;rw[hg];exact h3,h2⟩
 ·rename_i j want hg
  split at h
  ·rename_i g hd
   split at h
   ·rename_i b hb
    have yes:∀b',b'=b->lz T G N M o (st.jN (.tmp g) b') (λst=>lI T G N M ops l st K)->b=want->∃ks val R' iA,(∀t,look iA t=look (rL ks st.env) t)/\(∀t,o.dst=some t->t<N)/\nj P G M ops o st.env st.rows ks val R'/\lI T G N M ops l ⟨rM iA o.dst val,R'⟩ K:=by
     intro b' e hh hw
     subst e
     obtain⟨ks,val,R',iA,h0,h1,h2,h3⟩:=Zpr hT hG hh
     rw[Zrz (R7 hb)]at h3
     refine⟨ks,val,R',iA,λt=>by rw[h0,Br,Br,R7 hb],h1,?_,h2⟩
     unfold nj;rw[hg]
     exact⟨g,hd,.inl ⟨_,hb,by rw[if_pos hw];exact h3⟩⟩
    have no:∀b',b'=b->(st.jN (.tmp g) b').put N o.dst (.dw []) st.rows (λst=>lI T G N M ops l st K)->b≠want->∃ks val R' iA,(∀t,look iA t=look (rL ks st.env) t)/\(∀t,o.dst=some t->t<N)/\nj P G M ops o st.env st.rows ks val R'/\lI T G N M ops l ⟨rM iA o.dst val,R'⟩ K:=by
     intro b' e hh hw
     subst e
     obtain⟨h1,h2⟩:=oz hh
     refine⟨[],_,_,_,λt=>by rw[ow,R7 hb],h1,?_,h2⟩
     unfold nj;rw[hg]
     exact⟨g,hd,.inl ⟨_,hb,by rw[if_neg hw];exact⟨rfl,rfl,rfl⟩⟩⟩
    cases b<;>cases want<;>simp only[wS]at h
    ·exact yes _ rfl h rfl
    ·exact no _ rfl h (by simp)
    ·exact no _ rfl h (by simp)
    ·exact yes _ rfl h rfl
   ·rename_i hb
    obtain⟨h1,h2⟩:=oz h
    refine⟨[],_,_,st.env,λt=>ow.symm,h1,?_,h2⟩
    unfold nj;rw[hg]
    exact⟨g,hd,.inr ⟨hb,rfl,rfl,rfl⟩⟩
   ·exact h.elim
  ·exact h.elim
theorem RZ{ops:Array Oper}{o:Oper}{c:Ctx}{w:World}{a:Act}{j g:Nat}{want:Bool}(hg:o.guard=some (j,want))(hd:(ops[j]?).bind (·.dst)=some g)(h:Rep c w (.dw []) (a.tmps.getD g undef)):
 Region.wanted o (yielded ops a.tmps)=false:=by
 obtain⟨vs,hv,Bt⟩:=h
 have hy:yielded ops a.tmps j=none:=by
  simp only[yielded,hd,aW]
  cases hx:a.tmps[g]? with
  |none=>rfl
  |some v=>
   have:a.tmps.getD g undef=v:=by simp[hx]
   rw[this]at hv
   rw[hv]
 unfold Region.wanted
 rw[hg]
 simp only[hy]
 rfl
theorem RY(c:Ctx)(w:World):Rep c w (.dw []) undef:=⟨[],rfl,trivial⟩
theorem R3{ops:Array Oper}{o:Oper}{c:Ctx}{w:World}{a:Act}{j g:Nat}{want b:Bool}(hg:o.guard=some (j,want))(hd:(ops[j]?).bind (·.dst)=some g)(h:Rep c w (.bool b) (a.tmps.getD g undef)):
 Region.wanted o (yielded ops a.tmps)=decide (b=want):=by
 have hv:=Rep.bool.1 h
 have ht:a.tmps[g]?=some (.bool b):=by
  cases hx:a.tmps[g]? with
  |none=>simp[hx,undef]at hv
  |some v=>simp[hx]at hv;rw[hv]
 unfold Region.wanted
 simp only[hg,yielded,hd,aW,ht]
 cases b<;>cases want<;>rfl
def wpOp(P:Program)(ops:Array Oper)(Q:Exit->Act->World->Prop)(i:Nat)(K:Act->World->Prop)(a:Act)(w:World):Prop:=
 match ops[i]? with
 |none=>K a w
 |some o=>if Region.wanted o (yielded ops a.tmps)then o.mU P a w K Q else K (a.put o.dst undef) w
def JW(P:Program)(ops:Array Oper)(Q:Exit->Act->World->Prop):List Nat->Act->World->Prop
 |[],a,w=>Q .normal a w
 |i::rest,a,w=>wpOp P ops Q i (JW P ops Q rest) a w
theorem Zb8{P:Program}{ops:Array Oper}{Q:Exit->Act->World->Prop}(i:Nat)(rest:List Nat)(a:Act)(w:World):JW P ops Q (i::rest) a w=wpOp P ops Q i (JW P ops Q rest) a w:=rfl
def Hz(P:Program)(md:Region.Mode)(ops:Array Oper)(Q:Exit->Act->World->Prop):Nat->Array Bool->Act->World->Prop
 |0,ar,a,w=>Region.ready md ops ar=[]/\Q .normal a w
 |fuel+1,ar,a,w=>
  (Region.ready md ops ar=[]->Q .normal a w)/\
  ∀i∈Region.ready md ops ar,wpOp P ops Q i (Hz P md ops Q fuel (ar.setIfInBounds i true)) a w
abbrev AA(ro:Option Nat):Fence:={Fence.wide with round:=ro}
theorem yX{P:Program}{ro:Option Nat}{o:Oper}{a:Act}{w:World}{K:Act->World->Prop}{Q Q':Exit->Act->World->Prop}(h:o.mU P a w K Q):o.wpIn (AA ro) 0 P a w K Q':=by
 refine⟨λ_ _=>trivial,?_⟩
 have hd:∀c,o.op≠.defer c:=by
  intro c hc
  unfold Oper.mU at h
  simp only[execOp,hc,Sem.run_bind]at h
  revert h
  cases(resolve a.eval c o.type).run P w with
  |halt _ _=>exactλh=>h
  |ok d w'=>exactλh=>h
 rw[Oper.semAt_eq _ _ _ hd]
 unfold Oper.mU at h
 revert h
 generalize(execOp a.eval o).run P w=r
 intro h
 cases r with
 |halt _ _=>exact h.elim
 |ok n w'=>
  cases n with
  |value v=>exact h
  |skip=>exact h
  |enter f args=>
   refine⟨λe=>(by cases e),?_⟩
   refine CallsIn.mono (F:=Fence.wide) (callsIn_wide.2 h) λe w' ⟨v,he,hk⟩=>?_
   subst he;exact hk
  |round l f tmps assign body=>
   refine⟨λe=>(by cases e),?_⟩
   refine RoundIn.mono (F:=Fence.wide) h λe w' ⟨v,he,hk⟩=>?_
   subst he;exact hk
  |_=>exact h.elim
theorem R8{P:Program}{ro:Option Nat}{ops:Array Oper}{Q:Exit->Act->World->Prop}:∀{l:List Nat} {a:Act} {w:World},JW P ops Q l a w->wpOpsIn (AA ro) 0 P ops Q l a w
 |[],_,_,h=>h
 |i ::l,a,w,h=>by
  rw[Zb8]at h
  unfold wpOp at h
  unfold wpOpsIn
  split
  ·rename_i ho;simp only[ho]at h;exact R8 h
  ·rename_i o ho
   simp only[ho]at h
   split
   ·rename_i hw;rw[if_pos hw]at h;exact yX (Q:=Q) (VQ (Q':=Q) (λa w h=>R8 h) h)
   ·rename_i hw;rw[if_neg hw]at h;exact⟨λ_ _=>trivial,R8 h⟩
theorem R9{P:Program}{ro:Option Nat}{md:Region.Mode}{ops:Array Oper}{Q:Exit->Act->World->Prop}:∀{n:Nat} {ar:Array Bool} {a:Act} {w:World},Hz P md ops Q n ar a w->wpAnyIn (AA ro) 0 P md ops Q n ar a w
 |0,_,_,_,h=>h
 |n +1,ar,a,w,h=>by
  refine⟨h.1,λi hi=>?_⟩
  have h:=h.2 i hi
  unfold wpOp at h
  unfold wpOpIn
  split
  ·rename_i ho;simp only[ho]at h;exact R9 h
  ·rename_i o ho
   simp only[ho]at h
   split
   ·rename_i hw;rw[if_pos hw]at h;exact yX (Q:=Q) (VQ (Q':=Q) (λa w h=>R9 h) h)
   ·rename_i hw;rw[if_neg hw]at h;exact⟨λ_ _=>trivial,R9 h⟩
theorem Zgu{P:Program}{ro:Option Nat}{id:Nat}{ops:Array Oper}{Q:Exit->Act->World->Prop}{a:Act}{w:World}(h:JW P ops Q (List.range ops.size) a w):(Code.region id ops false).wpIn (AA ro) 0 P Q a w:=wpIn_region (R8 h)
theorem Qxx{P:Program}{ro:Option Nat}{ops:Array Oper}{Q:Exit->Act->World->Prop}{id:Nat}{a:Act}{w:World}(hm:P.follows .mixedOrders=true)
 (h:Hz P .any ops Q ops.size (Array.replicate ops.size false) a {w with drawn:=w.drawn+1}):(Code.region id ops true).wpIn (AA ro) 0 P Q a w:=wpIn_region_any hm (R9 h)
theorem vX{P:Program}{G:List ba}{ops:Array Oper}{N M:Nat}{c0:Ctx}{w0:World}{c:Ctx}{w:World}{st:St}{a:Act}{i:Nat}{o:Oper}{ks:List Nat}{val:D}{R':Rows}{iA:List (Nat×D)}(hi:ops[i]?=some o)
 (hs:fg N M c0 w0 c w st a) (h1:∀t,look iA t=look (rL ks st.env) t) (hd:∀t,o.dst=some t->t<N) (hG:nj P G M ops o st.env st.rows ks val R') {K:Act->World->Prop} {Q:Exit->Act->World->Prop}
 (hK:∀a' w' c',fg N M c0 w0 c' w' ⟨rM iA o.dst val,R'⟩ a'->K a' w'):wpOp P ops Q i K a w:=by
 have fin:(∀k,cv k ks=true->M<=k)->∀(v:Value) (w':World) (c':Ctx),jE ks c w c' w'->(∀r,c'.R r=R'.getD r none)->Rep c' w' val v->K (a.put o.dst v) w':=λhM v w' c' hn hR hv=>by
  refine hK _ _ c' ⟨hn.mem,hR,?_,?_,?_,hs.fw,hs.gp,hs.reach.step hM hs.gp hn⟩
  ·exact Zch hs.size hd (λt=>by rw[h1,Br];exact wM hn.cy (VR (hs.env t))) hv
  ·cases ho:o.dst<;>simp[Act.put]<;>exact hs.size
  ·exact lK.put (hs.defers.step hs.mem hn.fr)
 have run:pr P G M o (cj st.env) st.rows ks val R'->o.mU P a w K Q:=λhX=>hX.toK.2 c w a hs.mem hs.base hs.rows (λx _=>ME hs.env x) K Q (fin hX.toK.1)
 have skip:ks=[]->val=.dw []->R'=st.rows->K (a.put o.dst undef) w:=λe0 e1 e2=>by
  refine hK _ _ c ⟨hs.mem,by rw[e2];exact hs.rows,?_,?_,?_,hs.fw,hs.gp,hs.reach⟩
  ·exact Zch hs.size hd (λt=>by rw[h1,e0,ow];exact hs.env t) (by rw[e1];exact RY _ _)
  ·cases ho:o.dst<;>simp[Act.put]<;>exact hs.size
  ·exact lK.put hs.defers
 unfold wpOp
 simp only[hi]
 unfold nj at hG
 cases hg:o.guard with
 |none=>
  simp only[hg]at hG
  have hw:Region.wanted o (yielded ops a.tmps)=true:=by simp[Region.wanted,hg]
  rw[if_pos hw]
  exact run hG
 |some jw=>
  obtain⟨j,want⟩:=jw
  simp only[hg]at hG
  obtain⟨g,h2,⟨b,h3,h4⟩|⟨h3,e0,e1,e2⟩⟩:=hG
  rotate_left
  ·have hr:=hs.env g
   rw[h3]at hr
   rw[if_neg (by rw[RZ (o:=o) hg h2 hr];simp)]
   exact skip e0 e1 e2
  have hr:=hs.env g
  rw[h3]at hr
  have hw:=R3 (o:=o) hg h2 hr
  by_cases e:b=want
  ·rw[if_pos e]at h4
   rw[if_pos (by rw[hw];simpa using e)]
   exact run h4
  ·rw[if_neg e]at h4
   rw[if_neg (by rw[hw];simpa using e)]
   exact skip h4.1 h4.2.1 h4.2.2
theorem qY{P:Program}{T:e7}(hT:jb P T){G:List ba}(hG:jr P G){N M:Nat}{ops:Array Oper}{c0:Ctx}{w0:World}{K:St->Prop}{Q:Exit->Act->World->Prop}(hQ:∀st c w a,K st->fg N M c0 w0 c w st a->Q .normal a w):
 ∀(l:List Oper) (k:Nat) (st:St) (c:Ctx) (w:World) (a:Act),ops.toList.drop k=l->lI T G N M ops l st K->fg N M c0 w0 c w st a->JW P ops Q (bO k l.length) a w
 |[],k,st,c,w,a,_,h,hs=>hQ st c w a h hs
 |o ::l,k,st,c,w,a,hk,h,hs=>by
  have bg:k<ops.toList.length:=by
   by_cases bg:k<ops.toList.length
   ·exact bg
   ·rw[List.drop_eq_nil_of_le (by omega)]at hk;cases hk
  rw[List.drop_eq_getElem_cons bg]at hk
  have ho:ops[k]?=some o:=by
   have:=(List.cons.inj hk).1
   rw[<-this]
   simp at bg
   simp[bg]
  obtain⟨ks,val,R',iA,h1,h2,h3,h4⟩:=Vt hT hG h
  simp only[List.length_cons,List.range'_succ]
  rw[Zb8]
  exact vX ho hs h1 h2 h3 λa' w' c' iP=>qY hT hG hQ l (k+1) _ c' w' a' (List.cons.inj hk).2 h4 iP
def mC:Exit->Option Ex
 |.normal=>some .normal
 |.exit i=>some (.exit i)
 |.ret=>some .ret
 |_=>none
def tF(ro:Option Nat)(P:Program)(N M:Nat)(code:Code)(st:St)(Q:Ex->St->Prop):Prop:=
 ∀ (c0:Ctx) (w0:World) (c:Ctx) (w:World) (a:Act),fg N M c0 w0 c w st a->
  code.wpIn (AA ro) 0 P (λe a' w'=>∃ex jh c',mC e=some ex/\Q ex jh/\fg N M c0 w0 c' w' jh a') a w
abbrev Tr:=tF none
def Ctx.oM(c:Ctx)(R:Rows)(ks:List Nat):Ctx:=
 {c with R:=λr=>if cv r ks=true then none else(c.R r).map (Row.lU R ks),I:=λb=>c.I b\/∃r row,cv r ks=true/\c.R r=some row/\¬c.V r/\c.ρ r=b}
section
variable {c:Ctx} {w:World} {R:Rows} {ks:List Nat}
theorem Zkx(R:Rows)(ks:List Nat)(row:Row):(row.lU R ks).box=row.box/\(row.lU R ks).ty=row.ty/\(row.lU R ks).sz=row.sz/\(row.lU R ks).es.l.length=row.es.l.length:=by
 unfold Row.lU;split<;>exact⟨rfl,rfl,rfl,rfl⟩
theorem Z5q:∀{e:List D},(D.r4 R ks e).length=e.length
 |[]=>rfl
 |d::l=>by simp[D.r4,Z5q (e:=l)]
theorem Zhd:iW (c.kill ks) w (c.oM R ks) w:=by
 refine⟨rfl,aX _,λb h=>⟨.inl h,rfl⟩,λr x hx=>?_⟩
 obtain⟨h1,row,h2,rfl⟩:=mP hx
 obtain⟨s1,s2,s3,s4⟩:=Zkx R ks row
 obtain⟨k1,k2,k3,k4⟩:=Q5 ks row
 refine⟨row.lU R ks,?_,s1.trans k1.symm,s2.trans k2.symm,s3.trans k3.symm,s4.trans k4.symm,rfl,Iff.rfl,λ_ arr h=>⟨arr,h,rfl⟩⟩
 show(if cv r ks=true then none else(c.R r).map (Row.lU R ks))=_
 rw[h1,h2];rfl
theorem Z17:∀{ds:List D} {arr:Array Value} {off:Nat},ds.all D.plain=true->ku c w ds arr off->oB c.I w ds arr off
 |[],_,_,_,_=>Df.2 trivial
 |d::ds,arr,off,hp,⟨⟨v,hv,h1⟩,h2⟩=>by
  rw[List.all_cons,aE]at hp
  exact Dg.2 ⟨⟨v,hv,dd.plain hp.1 h1⟩,Z17 hp.2 h2⟩
variable (hm:Mem c w) (hA:∀r,c.R r=R.getD r none)
include hm hA
theorem VS{d:D}{v:Value}(h:dd c w d v):dd (c.oM R ks) w (d.Bu R ks) v:=by
 have HG:∀{d:D},dd c w d v->dd (c.oM R ks) w (d.ee ks) v:=λh=>Sa Zhd (Sb h)
 cases d with
 |all r=>
  simp only[D.Bu]
  cases hb:cv r ks with
  |false=>
   have:=HG h
   simpa only[D.ee,hb]using this
  |true=>
   obtain⟨row,g1,g2,hv⟩:=h
   have hr:R.getD r none=some row:=by rw[<-hA r];exact g1
   obtain⟨box,ty,sz,es⟩:=row
   simp only at g2
   subst g2
   simp only[hr]
   rcases hv with⟨hV,a,hv,_⟩|⟨hV,cap,arr,hv,g3,g4,g5,g6⟩
   ·have he:=(hm.nf g1 hV).2.1
    simp only at he
    exact⟨a,0,by rw[he];exact hv,by rw[he];exact aX _,.inl he⟩
   ·obtain⟨iD,ju,hs,hx⟩:=hm.real g1 hV
    simp only at g5 ju hx
    rw[g5]at ju;cases ju
    simp only[aA,if_false]at hx
    exact⟨_,cap,hv,g3,.inr ⟨_,0,arr,_,_,rfl,.inr ⟨r,_,hb,g1,hV,rfl⟩,by simp,g5,nh (λb hb=>⟨.inl hb,rfl⟩) _ _ _ _ hx⟩⟩
 |ptr r i off=>
  simp only[D.Bu]
  cases hb:cv r ks with
  |false=>
   have:=HG h
   simpa only[D.ee,hb]using this
  |true=>
   obtain⟨row,g1,g2,g3,hv⟩:=h
   have hr:R.getD r none=some row:=by rw[<-hA r];exact g1
   simp only
   split
   ·rename_i ty sz e he
    rw[he]at hr;cases hr
    split
    ·rename_i hp
     obtain⟨arr,ha,hs,hx⟩:=hm.real g1 g2
     simp only[if_true]at hx
     obtain⟨e',k1,k2,k3,k4⟩:=hx
     have k1:[e]=[e']:=by injection k1
     have k1:e=e':=(List.cons.inj k1).1
     subst k1
     refine⟨c.ρ r,0,arr,ty,(0,0),?_,.inr ⟨r,_,hb,g1,g2,rfl⟩,g3,ha,pB.2 ⟨k2,Zm3 (λb hb=>⟨.inl hb,rfl⟩) _ _ _ (Z17 hp k4),pQ.2 trivial⟩⟩
     rw[hv];simp
    ·rw[hv];rfl
   ·rw[hv];rfl
 |_=>exact HG h
theorem Zpp:∀{ds:List D} {vs:List Value},je c w ds vs->je (c.oM R ks) w (D.r4 R ks ds) vs
 |[],[],_=>trivial
 |_::_,_::_,h=>⟨VS hm hA h.1,Zpp h.2⟩
 |[],_::_,h=>h.elim
 |_::_,[],h=>h.elim
theorem Zpg{d:D}{v:Value}(h:VRep c w d v):VRep (c.oM R ks) w (d.HH R ks) v:=by
 cases d with
 |agg cs=>obtain⟨vs,hv,hr⟩:=h;exact⟨vs,hv,Zpp hm hA hr⟩
 |_=>
  have:=VS (ks:=ks) hm hA (VRep.toC (λcs e=>by cases e) h)
  exact VRep.DU this
theorem Zpt:∀{ds:List D} {vs:List Value},j4 c w ds vs->j4 (c.oM R ks) w (D.HI R ks ds) vs
 |[],[],_=>trivial
 |_::_,_::_,h=>⟨Zpg hm hA h.1,Zpt h.2⟩
 |[],_::_,h=>h.elim
 |_::_,[],h=>h.elim
theorem vG{d:D}{v:Value}(h:Rep c w d v):Rep (c.oM R ks) w (d.Bv R ks) v:=by
 cases d with
 |dw ds=>obtain⟨vs,hv,hr⟩:=h;exact⟨vs,hv,Zpt hm hA hr⟩
 |dead=>trivial
 |_=>
  have:=Zpg (ks:=ks) hm hA (Rep.toV (λds e=>by cases e) (λe=>by cases e) h)
  exact Rep.JU this
theorem Zgg:∀{ds:List D} {arr:Array Value} {off:Nat},ku c w ds arr off->ku (c.oM R ks) w (D.r4 R ks ds) arr off
 |[],_,_,_=>trivial
 |_::_,_,_,⟨⟨v,hv,h1⟩,h2⟩=>⟨⟨v,hv,VS hm hA h1⟩,Zgg h2⟩
theorem qac{r:Nat}{row:Row}(h:DX c w r row):DX (c.oM R ks) w r (row.lU R ks):=by
 obtain⟨s1,s2,s3,s4⟩:=Zkx R ks row
 rcases h with⟨h0,h1,h2,h3⟩|⟨h0,arr,ha,hs,hx⟩
 ·refine .inl ⟨h0,s1.trans h1,?_,by rw[s3];exact h3⟩
  rw[h2]at s4;exact List.eq_nil_of_length_eq_zero s4
 ·refine .inr ⟨h0,arr,by rw[s2];exact ha,by rw[s3];exact hs,?_⟩
  rw[s1,s3]
  split
  ·rename_i hb
   simp only[hb,if_true]at hx
   obtain⟨e,k1,k2,k3,k4⟩:=hx
   obtain⟨box,ty,sz,es⟩:=row
   simp only at hb k1 k2 k3 k4
   subst hb;subst k1
   exact⟨D.r4 R ks e,rfl,by rw[Z5q];exact k2,k3,Zgg hm hA k4⟩
  ·rename_i hb
   simp only[hb,aA,if_false]at hx
   have he:(row.lU R ks).es=row.es:=by
    unfold Row.lU
    split
    ·simp at hb
    ·rfl
   rw[he];exact nh (λb hb=>⟨.inl hb,rfl⟩) _ _ _ _ hx
omit hm hA in
theorem JX{r:Nat}{x:Row}(h:(c.oM R ks).R r=some x):cv r ks=false/\∃row,c.R r=some row/\x=row.lU R ks:=by
 simp only[Ctx.oM]at h
 cases hb:cv r ks with
 |true=>rw[hb]at h;simp at h
 |false=>
  rw[hb]at h
  simp only[aA,if_false,Option.map_eq_some_iff]at h
  obtain⟨row,h1,h2⟩:=h
  exact⟨rfl,row,h1,h2.symm⟩
theorem zac:Mem (c.oM R ks) w:=by
 refine⟨λr x hx=>?_,λr s x y hx hy v1 v2 he=>?_,λb hb=>?_,hm.top,hm.jP.mono λb hb=>⟨.inl hb,rfl⟩⟩
 ·obtain⟨_,row,h1,rfl⟩:=JX hx
  exact qac hm hA (hm.row r row h1)
 ·obtain⟨_,row,h1,_⟩:=JX hx
  obtain⟨_,ao,h2,_⟩:=JX hy
  exact hm.inj r s row ao h1 h2 v1 v2 he
 ·rcases hb with hb|⟨s,row,h1,h2,h3,rfl⟩
  ·refine⟨(hm.ff b hb).1,λr x hx v=>?_⟩
   obtain⟨_,row,h1,_⟩:=JX hx
   exact(hm.ff b hb).2 r row h1 v
  ·refine⟨hm.lt h2 h3,λr x hx v e=>?_⟩
   obtain⟨h4,ao,h5,_⟩:=JX hx
   have:=hm.inj r s ao row h5 h2 v h3 e
   rw[this,h1]at h4;cases h4
end
theorem Zba{R0:Rows}{ks:List Nat}:∀{R:Rows} {i r:Nat},(JY R0 ks R i).getD r none=if cv (i+r) ks=true then none else(R.getD r none).map (Row.lU R0 ks)
 |[],i,r=>by simp[JY]
 |x::l,i,0=>by
  simp only[JY,aB]
  cases cv i ks<;>cases x<;>simp
 |x::l,i,r+1=>by
  have:=Zba (R0:=R0) (ks:=ks) (R:=l) (i:=i+1) (r:=r)
  rw[show i+1+r=i+(r+1) by omega]at this
  simpa[JY]using this
def tS(R:Rows)(ks:List Nat)(env:List (Nat×D)):List (Nat×D):=env.map λx=>(x.1,x.2.Bv R ks)
theorem Zq{R:Rows}{ks:List Nat}:∀{env:List (Nat×D)} {K:List (Nat×D)->Prop},DY R ks env K↔K (tS R ks env)
 |[],_=>Iff.rfl
 |(t,d)::l,K=>by
  simp only[DY,D.c7]
  rw[Zq (env:=l) (K:=λl=>K ((t,d.Bv R ks)::l))]
  rfl
theorem Zoq{R:Rows}{ks:List Nat}:∀{env:List (Nat×D)} {t:Nat},look (tS R ks env) t=(look env t).Bv R ks
 |[],_=>rfl
 |(u,d)::l,t=>by
  simp only[tS,List.map_cons,look]
  split
  ·rfl
  ·exact Zoq (env:=l)
theorem VT{M:Nat}{R:Rows}:∀{l:List Nat} {r:Nat},r∈tT M R l->M<=r
 |x ::l,r,h=>by
  simp only[tT]at h
  split at h
  ·rename_i hb
   rcases List.mem_cons.1 h with e|h
   ·rw[e];rw[aE]at hb;exact lE hb.1
   ·exact VT h
  ·exact VT h
theorem xac{N M:Nat}{c0:Ctx}{w0:World}{c:Ctx}{w:World}{st:St}{a:Act}{T:e7}{G:List ba}{ops:Array Oper}{K:St->Prop}(h:HJ T G M ops st K)(hs:fg N M c0 w0 c w st a):∃jh c',K jh/\fg N M c0 w0 c' w jh a:=by
 unfold HJ at h
 split at h
 ·exact⟨st,c,h,hs⟩
 ·rename_i ks hk
  have hM:∀k,cv k (tT M st.rows (Sc T G st.env st.rows [] [] ops.toList))=true->M<=k:=λk hk=>VT (nG.1 hk)
  generalize tT M st.rows (Sc T G st.env st.rows [] [] ops.toList)=ks at*
  rw[Zq,mV]at h
  have hm:=zac (ks:=ks) hs.mem hs.rows
  refine⟨_,c.oM st.rows ks,h,hm,λr=>?_,λt=>?_,hs.size,hs.defers,hs.fw,hs.gp,hs.reach.step (ks:=ks) hM hs.gp ⟨hm,Zhd,Fr.refl _ w,λb hb=>?_,λr ao hr hv=>?_⟩⟩
  ·rw[Zba,bG,<-hs.rows r];rfl
  ·rw[Zoq];exact vG hs.mem hs.rows (hs.env t)
  ·rcases hb with hb|hb
   ·exact .inl hb
   ·exact .inr (.inl hb)
  ·obtain⟨_,row,h1,_⟩:=JX hr
   exact .inl ⟨⟨row,h1⟩,hv,rfl⟩
theorem vb{c:Ctx}{w:World}(hm:Mem c w){r:Nat}{ty:TypeId}{sz:Nat}{e e':List D}(hr:c.R r=some ⟨true,ty,sz,.gen [e]⟩)(hl:e'.length=e.length)(hc:∀arr,ku c w e arr 0->ku c w e' arr 0):iW c w (c.jJ r ⟨true,ty,sz,.gen [e']⟩) w/\Mem (c.jJ r ⟨true,ty,sz,.gen [e']⟩) w:=by
 have hg:iW c w (c.jJ r ⟨true,ty,sz,.gen [e']⟩) w:=by
  refine⟨rfl,aX _,λb hb=>⟨hb,rfl⟩,λs x hs=>?_⟩
  by_cases e:s=r
  ·subst e
   rw[hr]at hs;cases hs
   exact⟨⟨true,ty,sz,.gen [e']⟩,by simp[Ctx.jJ],rfl,rfl,rfl,rfl,rfl,Iff.rfl,λ_ a ha=>⟨a,ha,rfl⟩⟩
  ·exact⟨x,by simp[Ctx.jJ,e,hs],rfl,rfl,rfl,rfl,rfl,Iff.rfl,λ_ a ha=>⟨a,ha,rfl⟩⟩
 have jv:∀s x,(c.jJ r ⟨true,ty,sz,.gen [e']⟩).R s=some x->∃x',c.R s=some x':=λs x hs=>by
  by_cases e:s=r
  ·exact⟨_,by rw[e];exact hr⟩
  ·exact⟨x,by simpa[Ctx.jJ,e]using hs⟩
 refine⟨hg,λs x hs=>?_,λs q x y hs hq v1 v2 he=>?_,λb ib=>⟨(hm.ff b ib).1,λs x hs hv=>?_⟩,hm.top,hm.jP⟩
 ·by_cases es:s=r
  ·subst es
   simp only[Ctx.jJ,if_true,Option.some.injEq]at hs
   subst hs
   rcases hm.row _ _ hr with⟨g0,g1,g2,g3⟩|⟨g0,arr,g1,g2,g3⟩
   ·cases g1
   ·refine .inr ⟨g0,arr,g1,g2,?_⟩
    simp only[if_true]at g3⊢
    obtain⟨e0,q1,q2,q3,q4⟩:=g3
    cases q1
    exact⟨e',rfl,hl.trans q2,q3,MI hg (hc arr q4)⟩
  ·have iP:c.R s=some x:=by simpa[Ctx.jJ,es]using hs
   exact sV hg rfl Iff.rfl (λ_=>rfl) (hm.row s x iP)
 ·obtain⟨x',jD⟩:=jv s x hs
  obtain⟨y',wQ⟩:=jv q y hq
  exact hm.inj s q x' y' jD wQ v1 v2 he
 ·obtain⟨x',jD⟩:=jv s x hs
  exact(hm.ff b ib).2 s x' jD hv
theorem qc{T:e7}{R:Rows}{i:Nat}{ty:TypeId}{sz:Nat}{e:TypeId}{n:Nat}(h:tU T R i=some (ty,sz,e,n)):0<n/\∃d,R.getD i none=some ⟨true,ty,sz,.gen [[d]]⟩/\(d=.c8\/d=.emp):=by
 unfold tU at h
 split at h
 ·rename_i jM jV d hr
  have go:∀{x:Option (TypeId×Nat×TypeId×Nat)},x=some (ty,sz,e,n)->(x=match T.get jM with|some ⟨.slice e n,_,_,_,_,_⟩=>(match bN 0 n with|true=>some (jM,jV,e,n)|false=>none)|_=>none)->0<n/\jM=ty/\jV=sz:=by
   intro x hx hy
   rw[hx]at hy
   split at hy
   ·split at hy
    ·rename_i hb;cases hy;exact⟨lE hb,rfl,rfl⟩
    ·cases hy
   ·cases hy
  split at h
  ·obtain⟨h1,rfl,rfl⟩:=go h rfl
   exact⟨h1,_,hr,.inl rfl⟩
  ·obtain⟨h1,rfl,rfl⟩:=go h rfl
   exact⟨h1,_,hr,.inr rfl⟩
  ·cases h
 ·cases h
theorem FP{N M:Nat}{c0:Ctx}{w0:World}{w:World}{a:Act}{T:e7}{env:List (Nat×D)}{K:Rows->Prop}:∀{l:List iq} {R:Rows} {c:Ctx},HK T l env R K->fg N M c0 w0 c w ⟨env,R⟩ a->∃R' c',K R'/\fg N M c0 w0 c' w ⟨env,R'⟩ a
 |[],R,c,h,hs=>⟨R,c,h,hs⟩
 |.int _ _::l,R,c,h,hs=>FP (l:=l) h hs
 |.arr _::l,R,c,h,hs=>FP (l:=l) h hs
 |.sl _ _ _::l,R,c,h,hs=>FP (l:=l) h hs
 |.fn _ _::l,R,c,h,hs=>FP (l:=l) h hs
 |.ptr i _ _::l,R,c,h,hs=>by
  simp only[HK]at h
  split at h
  rotate_left
  ·exact FP (l:=l) h hs
  rename_i ty sz u n hr
  obtain⟨h0,d,h2,hd⟩:=qc hr
  simp only[mV,JZ]at h
  have bg:i<R.length:=by
   by_cases bg:i<R.length
   ·exact bg
   ·rw[aV,aJ (by omega)]at h2;cases h2
  rw[List.set_append_left _ _ bg]at h
  have hi:c.R i=some ⟨true,ty,sz,.gen [[d]]⟩:=by rw[hs.rows];exact h2
  have hn:c.R R.length=none:=by rw[hs.rows,aV,aJ (aX _)];rfl
  have gm:i≠R.length:=by omega
  have HL:=VU hs.mem hn (row:=⟨false,u,n,.gen []⟩) rfl rfl h0
  have VV:=Sd (w:=w) hn ⟨false,u,n,.gen []⟩
  have VW:(c.jl R.length ⟨false,u,n,.gen []⟩).R i=some ⟨true,ty,sz,.gen [[d]]⟩:=by simp[Ctx.jl,gm,hi]
  obtain⟨VX,Bw⟩:=vb (e':=[.all R.length]) HL VW rfl (λarr hc=>by
   obtain⟨⟨v,hv,h1⟩,_⟩:=hc
   refine⟨⟨v,hv,⟨false,u,n,.gen []⟩,by simp[Ctx.jl],rfl,.inl ⟨.inl rfl,?_⟩⟩,trivial⟩
   rcases hd with rfl|rfl
   ·exact⟨none,h1,MJ⟩
   ·exact h1)
  have hg:=VV.trans VX
  have nn:lu c w ((c.jl R.length ⟨false,u,n,.gen []⟩).jJ i ⟨true,ty,sz,.gen [[.all R.length]]⟩) w:=by
   refine⟨Bw,hg,Fr.refl _ w,λb hb=>.inl hb,λr ao hr hv=>.inl ?_⟩
   have VY:r≠R.length:=λe=>hv (.inl e)
   by_cases er:r=i
   ·subst er;exact⟨⟨_,hi⟩,λe=>hv (.inr e),rfl⟩
   ·exact⟨⟨ao,by simpa[Ctx.jJ,Ctx.jl,er,VY]using hr⟩,λe=>hv (.inr e),rfl⟩
  refine FP (l:=l) h ⟨Bw,λr=>?_,λt=>wM hg (hs.env t),hs.size,hs.defers,hs.fw,hs.gp,hs.reach.step (ks:=[]) (λk hk=>by simp[cv]at hk) hs.gp nn.toK⟩
  simp only[Ctx.jJ,Ctx.jl]
  by_cases er:r=i
  ·subst er
   simp[aV,bI (show r<(R.set r _).length by simpa using bg),bg]
  ·rw [if_neg er]
   by_cases en:r=R.length
   ·subst en
    simp[aV]
   ·rw[if_neg en,hs.rows]
    by_cases hl:r<R.length
    ·simp[aV,bI (show r<(R.set i _).length by simpa using hl),List.getElem?_set_ne (Ne.symm er)]
    ·have h1:R.getD r none=none:=by rw[aV,aJ (by omega)];rfl
     rw[h1,aV,aJ (by simp;omega)];rfl
