import Derived.Test.YthjfindbamdacaaGreatDoorAuditScriptsFk
import Derived.Laws.IdiomStrings
import Derived.Laws.BytesArg
import Derived.Laws.Cover3
import Derived.RangeFuncRecord
import Derived.OrdersIn
import Derived.LoopNIn
open List renaming getD->aK,getElem?_take->aU,getElem?_toArray->aY,getElem?_append_left->aZ,size_toArray->bA,getElem?_append_right->bB,length_take->bD,length_drop->bF,getElem?_eq_none->aM,range'->bK,map_append->bL,map_congr_left->bM,ext_getElem->bN,getElem_map->bO,getElem_range'->bP,map_toArray->bR
open Nat renaming mul_le_mul_right->aV,succ_mul->aW,zero_add->aX,add_mul->bC,le_refl->aO,add_zero->bG,le_trans->bH,lt_of_lt_of_le->bI,blt->bJ
open Bool renaming or_eq_true->aI,false_eq_true->aN
open Array renaming getD->aP,empty_append->bQ,toArray_toList->bS
open Option renaming bind_some->aL
set_option linter.all false
namespace Go.GD
open Go
theorem Zhj{P:Program}(w:World){t tx ty e:TypeId}{i:TypeInfo}(ht:P.underlying t=some (.slice e))(hi:P.info? e=some i)
 {a:Option Addr} {n cap m:Nat} {x:Value} {news:List Value} (hl:(Builtin.lenOf x).run P w=.ok m w) (hf:(Builtin.firstCells i.size (min m n) x).run P w=.ok news.toArray w) {w':World}
 (jQ:∀b,a=some b->(storeCells b news).run P w=.ok () w') (oL:a=none->w'=w):
 (Builtin.copy_ #[t,tx] ty #[.slice a n cap,x]).run P w=.ok (.int .i64 (min m n:Nat)) w':=by
 cases a with
 |none=>
  have:=oL rfl
  subst this
  simp[Builtin.copy_,run_underlying ht,sizeOf,typeInfo,hi,hl,goInt,hf]
 |some b=>simp[Builtin.copy_,run_underlying ht,sizeOf,typeInfo,hi,hl,goInt,hf,jQ b rfl]
theorem Z9d{I:ae}{w:World}{es:List (List D)}{news:List Value}{sz k:Nat}(h:iJ I w es news.toArray 0 sz)(hk:k<=es.length):iJ I w (es.take k) (news.take (k*sz)).toArray 0 sz:=by
 rw[wh]at h⊢
 intro i hi
 have iz:i<k:=by simp at hi;omega
 obtain⟨h1,h2⟩:=h i (by omega)
 have he:(es.take k).getD i []=es.getD i []:=by simp[aK,aU,iz]
 rw[he]
 refine⟨h1,?_⟩
 rw[tW]at h2⊢
 intro j hj
 obtain⟨v,hv,hp⟩:=h2 j hj
 refine⟨v,?_,hp⟩
 have cg:i*sz+j<k*sz:=by
  have:=aV sz (show i+1<=k by omega)
  rw[aW]at this
  omega
 simp only[aX,aY]at hv⊢
 rw[aU,if_pos cg]
 exact hv
theorem Qyi{I:ae}{w:World}{es ys:List (List D)}{A B:List Value}{sz:Nat}(h1:iJ I w es A.toArray 0 sz)(hA:A.length=es.length*sz)(h2:iJ I w ys B.toArray 0 sz):iJ I w (es++ys) (A++B).toArray 0 sz:=by
 rw[wh]at h1 h2⊢
 intro i hi
 by_cases cg:i<es.length
 ·have he:(es++ys).getD i []=es.getD i []:=by simp[aK,aZ cg]
  rw[he]
  obtain⟨g1,g2⟩:=h1 i cg
  refine⟨g1,?_⟩
  rw[tW]at g2⊢
  intro j hj
  obtain⟨v,hv,hp⟩:=g2 j hj
  refine⟨v,?_,hp⟩
  have hl:=(Array.getElem?_eq_some_iff.1 hv).1
  simp only[aY,bA]at hv hl⊢
  rw[aZ hl];exact hv
 ·have iz:i-es.length<ys.length:=by simp at hi;omega
  have he:(es++ys).getD i []=ys.getD (i-es.length) []:=by simp[aK,bB (show es.length<=i by omega)]
  rw[he]
  obtain⟨g1,g2⟩:=h2 _ iz
  refine⟨g1,?_⟩
  rw[tW]at g2⊢
  intro j hj
  obtain⟨v,hv,hp⟩:=g2 j hj
  refine⟨v,?_,hp⟩
  simp only[aY]at hv⊢
  have e:0+i*sz+j=A.length+(0+(i-es.length)*sz+j):=by
   rw[hA,show i*sz=(es.length+(i-es.length))*sz by congr 1;omega,bC];omega
  rw[e,bB (by omega)]
  rw[show A.length+(0+(i-es.length)*sz+j)-A.length=0+(i-es.length)*sz+j by omega]
  exact hv
theorem Zo8{I:ae}{w:World}{es:List (List D)}{arr:Array Value}{sz k:Nat}(h:iJ I w es arr 0 sz):iJ I w (es.drop k) (arr.toList.drop (k*sz)).toArray 0 sz:=by
 have:=KA (l:=k) h
 rw[wh]at this⊢
 intro i hi
 obtain⟨h1,h2⟩:=this i hi
 refine⟨h1,?_⟩
 rw[tW]at h2⊢
 intro j hj
 obtain⟨v,hv,hp⟩:=h2 j hj
 refine⟨v,?_,hp⟩
 simp only[aY,List.getElem?_drop]
 rw[<-hv]
 simp[Nat.add_assoc]
theorem vF{c:Ctx}{w:World}(hm:Mem c w){r:Nat}{row ak:Row}(hr:c.R r=some row)(h1:ak.box=row.box)(hb:row.box=false)(h2:ak.ty=row.ty)(h3:ak.sz=row.sz)(h4:ak.es.l=row.es.l):jk c w (c.jB r ak) w/\Mem (c.jB r ak) w:=by
 have hg:jk c w (c.jB r ak) w:=by
  refine⟨rfl,aO _,λb hb=>⟨hb,rfl⟩,λs x hs=>?_⟩
  by_cases e:s=r
  ·subst e
   rw[hr]at hs;cases hs
   exact⟨ak,by simp[Ctx.jB],h1,h2,h3,by rw[h4],rfl,Iff.rfl,λ_ a ha=>⟨a,ha,rfl⟩⟩
  ·exact⟨x,by simp[Ctx.jB,e,hs],rfl,rfl,rfl,rfl,rfl,Iff.rfl,λ_ a ha=>⟨a,ha,rfl⟩⟩
 have jA:∀s x,(c.jB r ak).R s=some x->∃x',c.R s=some x':=λs x hs=>by
  by_cases e:s=r
  ·exact⟨row,by rw[e];exact hr⟩
  ·exact⟨x,by simpa[Ctx.jB,e]using hs⟩
 refine⟨hg,λs x hs=>?_,λs q x y hs hq v1 v2 he=>?_,λb iI=>⟨(hm.fu b iI).1,λs x hs hv=>?_⟩,hm.top,hm.kN⟩
 ·by_cases e:s=r
  ·subst e
   simp only[Ctx.jB,if_true,Option.some.injEq]at hs
   subst hs
   rcases hm.row _ row hr with⟨g0,g1,g2,g3⟩|⟨g0,arr,g1,g2,g3⟩
   ·exact .inl ⟨g0,h1.trans g1,h4.trans g2,by rw[h3];exact g3⟩
   ·refine .inr ⟨g0,arr,by rw[h2];exact g1,by rw[h3];exact g2,?_⟩
    rw[if_neg (by rw[hb];simp)]at g3
    rw[if_neg (by rw[h1,hb];simp),h4,h3]
    exact g3
  ·have ji:c.R s=some x:=by simpa[Ctx.jB,e]using hs
   exact tX hg rfl Iff.rfl (λ_=>rfl) (hm.row s x ji)
 ·obtain⟨x',jE⟩:=jA s x hs
  obtain⟨y',Ao⟩:=jA q y hq
  exact hm.inj s q x' y' jE Ao v1 v2 he
 ·obtain⟨x',jE⟩:=jA s x hs
  exact(hm.fu b iI).2 s x' jE hv
theorem ya{P:Program}{T:fq}(hT:jz P T){t tx ty:TypeId}{x y:D}{R:Rows}{K:D->Rows->Prop}(h:tY T t tx x y R K):
 ∃ val R',K val R'/\∀c w vx vy,Mem c w->(∀r,c.R r=R.getD r none)->Rep c w x vx->Rep c w y vy->
  ∃v' w' c',(Builtin.copy_ #[t,tx] ty #[vx,vy]).run P w=.ok v' w'/\lP c w c' w'/\(∀r,c'.R r=R'.getD r none)/\Rep c' w' val v':=by
 unfold tY at h
 split at h
 ·rename_i e iN _ _ _ _ _ ht
  have hk:=mX hT ht
  simp only at hk
  split at h
  ·rename_i ke sz lQ cs z q kx _ _ _ _ _ he htx
   obtain⟨i0,rO,EH,_,Bn,Ap,_⟩:=DH (hT.get he)
   simp only at EH
   split at h
   ·rename_i sy ys jW
    simp only[da,aE,aI]at h
    obtain⟨⟨⟨h0,h1⟩,h5⟩,h⟩:=h
    have h0:0<sz:=lE h0
    have h5:sy=sz\/ys.l=[]:=h5.imp bE SF
    have core:∀(r o n k:Nat) (jU:TypeId) (es jc:ao),jc.l=es.l.take o++ys.l.take k++es.l.drop (o+k)->R.getD r none=some ⟨false,jU,sz,es⟩->k=min ys.l.length n->o+n<=es.l.length->∀c w vx vy,Mem c w->(∀r,c.R r=R.getD r none)->
     ((n=0/\∃a,vx=.slice a 0 0)\/(¬c.V r/\∃cap arr,vx=.slice (some ⟨c.ρ r,o*sz,none⟩) n cap/\w.heap[c.ρ r]?=some (.cells arr jU (0,0))))->Rep c w y vy->
     ∃v' w' c',(Builtin.copy_ #[t,tx] ty #[vx,vy]).run P w=.ok v' w'/\lP c w c' w'/\(∀q,c'.R q=(R.set r (some ⟨false,jU,sz,jc⟩)).getD q none)/\v'=.int .i64 (k:Nat):=by
     intro r o n k jU es jc Im hr EE KB c w vx vy hm hR hx hy
     have o7:mJ c R:=λr row ak g1 g2=>by rw[hR,g2]at g1;exact(Option.some.inj g1).symm
     obtain⟨news,s1,s2,s3,s4⟩:=v8 (P:=P) h0 jW h5 hm o7 hy
     have cb:c.R r=some ⟨false,jU,sz,es⟩:=by rw[hR];exact hr
     rcases hx with⟨hn0,a,hx⟩|⟨hV,cap,arr,hx,hh⟩
     ·subst hx
      have Ap:k=0:=by omega
      have ig:=Zhj (P:=P) w (ty:=ty) (tx:=tx) (a:=a) (n:=0) (cap:=0) (news:=[]) (w':=w) hk.1 rO s2 (by rw[EH];simpa using s3 0 (Nat.zero_le _) w rfl) (λb _=>by simp[storeCells]) (λ_=>rfl)
      have hl:jc.l=es.l:=by rw[Im,Ap];simp
      obtain⟨u1,u2⟩:=vF hm cb (ak:=⟨false,jU,sz,jc⟩) rfl rfl rfl rfl hl
      refine⟨_,w,c.jB r ⟨false,jU,sz,jc⟩,ig,⟨u2,u1,Fr.refl _ w,λb hb=>.inl hb,λq row hq v=>.inl ⟨?_,v,rfl⟩⟩,λq=>?_,by rw[Ap];simp⟩
      ·by_cases e:q=r
       ·exact⟨_,by rw[e];exact cb⟩
       ·exact⟨row,by simpa[Ctx.jB,e]using hq⟩
      ·rw[Wt hr]
       simp only[Ctx.jB]
       split
       ·rfl
       ·exact hR q
     ·subst hx
      obtain⟨cur,ha,_,hE⟩:=hm.real cb hV
      simp only at ha
      rw[hh]at ha;cases ha
      simp only[aN,if_false]at hE
      have kP:es.l.length*sz<=arr.size:=by
       by_cases he:es.l.length=0
       ·rw[he];omega
       ·have:=Z2p hE h0 (show es.l.length-1<es.l.length by omega)
        have e1:es.l.length*sz=(es.l.length-1)*sz+sz:=by rw[show es.l.length*sz=(es.l.length-1+1)*sz by congr 1;omega,aW]
        omega
      have Wu:k<=ys.l.length/\k<=n:=by omega
      have ra:o*sz+0+(news.take (k*sz)).length<=arr.size:=by
       have h1:(o+k)*sz<=es.l.length*sz:=aV _ (by omega)
       rw[bC]at h1
       rw[bD];omega
      have hlen:(news.take (k*sz)).length=k*sz:=by
       have:=aV sz Wu.1
       rw[bD];omega
      have jQ:=run_storeCells_at (P:=P) (c.ρ r) (o*sz) jU (news.take (k*sz)) 0 arr w hh ra (λu hu=>iJ.one s4 s1 u (List.mem_of_mem_take hu))
      have ig:=Zhj (P:=P) w (ty:=ty) (tx:=tx) (a:=some ⟨c.ρ r,o*sz,none⟩) (n:=n) (cap:=cap) (news:=news.take (k*sz)) (w':=w.setRow (c.ρ r) (arr.toList.take (o*sz+0)++news.take (k*sz)++arr.toList.drop (o*sz+0+(news.take (k*sz)).length)).toArray) hk.1 rO s2 (by rw[EH,<-EE];exact s3 k Wu.1 w rfl) (λb hb=>by cases hb;simpa using jQ) (λh=>by cases h)
      have wj:jc.l.length=es.l.length:=by rw[Im];simp only[lA,bD,bF];omega
      have hw:=hm.write (ak:=⟨false,jU,sz,jc⟩) cb hV hh (arr:=(arr.toList.take (o*sz+0)++news.take (k*sz)++arr.toList.drop (o*sz+0+(news.take (k*sz)).length)).toArray)
       (by simp only[bA,lA,bD,bF,Array.length_toList];simp only[bD]at ra;omega) rfl rfl rfl wj
      have gy:=hw.2 ⟨h0,by
       simp only[aN,if_false]
       rw[Im]
       refine od (λb hb=>⟨hb,(hw.1.I b hb).2⟩) _ _ _ _ ?_
       have p1:=Z9d (k:=o) (I:=c.I) (w:=w) (news:=arr.toList) (es:=es.l) (sz:=sz) (by simpa using hE) (by omega)
       have p2:=Z9d (k:=k) s4 Wu.1
       have p3:=Zo8 (k:=o+k) hE
       have l1:(arr.toList.take (o*sz)).length=(es.l.take o).length*sz:=by
        have:=aV sz (show o<=es.l.length by omega)
        rw[bD,bD,show min o es.l.length=o by omega,show arr.toList.length=arr.size from rfl];omega
       have q1:=Qyi p1 l1 p2
       have l2:(arr.toList.take (o*sz)++news.take (k*sz)).length=(es.l.take o++ys.l.take k).length*sz:=by
        rw[lA,l1,hlen,lA,bC,bD (l:=ys.l),show min k ys.l.length=k by omega]
       have q2:=Qyi q1 l2 p3
       have e2:o*sz+0+(news.take (k*sz)).length=(o+k)*sz:=by rw[hlen,bC];omega
       rw[e2]
       simpa using q2⟩
      refine⟨_,_,c.jB r ⟨false,jU,sz,jc⟩,ig,⟨gy,hw.1,(SG w _ _).mono λb _ hb=>⟨r,_,cb,hV,hb.symm⟩,λb hb=>.inl hb,λq ak hq v=>.inl ⟨?_,v,rfl⟩⟩,λq=>?_,by rw[EE]⟩
      ·by_cases e:q=r
       ·exact⟨_,by rw[e];exact cb⟩
       ·exact⟨ak,by simpa[Ctx.jB,e]using hq⟩
      ·rw[Wt hr]
       simp only[Ctx.jB]
       split
       ·rfl
       ·exact hR q
    cases x<;>simp only at h
    case all r=>
     split at h
     ·rename_i jU s es hr
      simp only[da,nn]at h
      have hs:=bE h.1
      subst hs
      refine⟨_,_,h.2,λc w vx vy hm hR hx hy=>?_⟩
      obtain⟨row,q1,q2,hv⟩:=hx
      have cb:row=⟨false,jU,s,es⟩:=by rw[hR,hr]at q1;exact(Option.some.inj q1).symm
      subst cb
      have jE:(es.l.length=0/\∃a,vx=.slice a 0 0)\/(¬c.V r/\∃cap arr,vx=.slice (some ⟨c.ρ r,0*s,none⟩) es.l.length cap/\w.heap[c.ρ r]?=some (.cells arr jU (0,0))):=by
       rcases hv with⟨hV,a,hv,_⟩|⟨hV,cap,arr,hv,h1,h2,h3,h4⟩
       ·have:=(hm.oe q1 hV).2.1
        simp only at this
        exact .inl ⟨by rw[this];rfl,a,hv⟩
       ·exact .inr ⟨hV,cap,arr,by rw[Nat.zero_mul];exact hv,h3⟩
      obtain⟨v',w',c',p1,p2,p3,p4⟩:=core r 0 es.l.length _ jU es ((ys.take (min ys.len es.len)).app (es.drop (min ys.len es.len))) (by rw[ao.jX,ao.iZ,ao.kb,ao.iw,ao.iw];simp) hr rfl (by omega) c w vx vy hm hR jE hy
      exact⟨v',w',c',p1,p2,p3,by rw[p4,ao.iw,ao.iw];rfl⟩
     ·exact h.elim
    case own r o n=>
     split at h
     ·rename_i jU s es hr
      simp only[da,nn]at h
      have hs:=bE h.1
      subst hs
      refine⟨_,_,h.2,λc w vx vy hm hR hx hy=>?_⟩
      obtain⟨row,q1,q2,ho,hv⟩:=hx
      have cb:row=⟨false,jU,s,es⟩:=by rw[hR,hr]at q1;exact(Option.some.inj q1).symm
      subst cb
      have jE:(n=0/\∃a,vx=.slice a 0 0)\/(¬c.V r/\∃cap arr,vx=.slice (some ⟨c.ρ r,o*s,none⟩) n cap/\w.heap[c.ρ r]?=some (.cells arr jU (0,0))):=by
       rcases hv with⟨h0,a,hv,_⟩|⟨hV,cap,arr,h1,h2,h3,hv,h4⟩
       ·exact .inl ⟨h0,a,hv⟩
       ·exact .inr ⟨hV,cap,arr,hv,h3⟩
      obtain⟨v',w',c',p1,p2,p3,p4⟩:=core r o n _ jU es (((es.take o).app (ys.take (min ys.len n))).app (es.drop (o+min ys.len n))) (by rw[ao.jX,ao.jX,ao.iZ,ao.iZ,ao.kb,ao.iw]) hr rfl ho c w vx vy hm hR jE hy
      exact⟨v',w',c',p1,p2,p3,by rw[p4,ao.iw];rfl⟩
     ·exact h.elim
   ·exact h.elim
  ·exact h.elim
 ·exact h.elim
theorem Zn0{mx:Bool}{x y:D}{K:D->Prop}(h:wm mx x y K):∃val,K val/\∀(P:Program) c w vx vy,Rep c w x vx->Rep c w y vy->∃u,((mx=false->∀dc ty,(Builtin.min_ dc ty #[vx,vy]).run P w=.ok u w)/\(mx=true->∀dc ty,(Builtin.max_ dc ty #[vx,vy]).run P w=.ok u w))/\Rep c w val u:=by
 unfold wm at h
 split at h
 ·rename_i k a k' b
  simp only[da,decide_eq_true_eq]at h
  obtain⟨rfl,h⟩:=h
  refine⟨_,h,λP c w vx vy hx hy=>⟨_,⟨λe dc ty=>?_,λe dc ty=>?_⟩,rfl⟩⟩
  ·subst e
   rw[Rep.int.1 hx,Rep.int.1 hy]
   simp[Builtin.min_,Builtin.min2]
  ·subst e
   rw[Rep.int.1 hx,Rep.int.1 hy]
   simp[Builtin.max_,Builtin.max2]
 ·exact h.elim
theorem qG{P:Program}{T:fq}(hT:jz P T){t:TypeId}{es:ao}{K:D->Prop}(h:BO T t es K):K (.pY es)/\∀s fr c w vx vy,Rep c w (.sl s es fr) vx->Rep c w .du vy->∃u,(∀x y,(do eqGuard .eql t x y vx vy;binOp .eql t vx vy).run P w=.ok u w)/\Rep c w (.pY es) u:=by
 unfold BO at h
 split at h
 ·rename_i e n _ _ _ _ _ ht
  have hk:=mX hT ht
  simp only at hk
  refine⟨h,λs fr c w vx vy hx hy=>?_⟩
  obtain⟨a,cap,hv,hc,ij⟩:=hx
  rw[show vy=_ from hy,hv]
  refine⟨.bool a.isNone,λx y=>?_,a.isNone,rfl,λe'=>?_⟩
  ·have hg:(eqGuard .eql t x y (.slice a es.l.length cap) (.slice none 0 0)).run P w=.ok () w:=rfl
   rw[Sem.run_bind,hg]
   simp only[Result.andThen_ok,binOp]
   simp only[run_equal_slice_nil w t e a es.l.length cap hk.1,Sem.run_bind,Result.andThen_ok,Sem.run_pure]
  ·rcases ij with ij|⟨b,off,arr,ty,fz,ha,_⟩
   ·exact ij
   ·subst ha;cases e'
 ·exact h.elim
theorem Zp{I:ae}{w:World}{l:List Int}{news:List Value}(h:iJ I w (ao.ints .u8 l).l news.toArray 0 1)(hl:news.length=(ao.ints .u8 l).l.length*1):news=l.map (Value.int .u8):=by
 have tC:news.length=l.length:=by simpa[ao.len]using hl
 apply List.ext_getElem?
 intro i
 by_cases hi:i<l.length
 ·obtain⟨h1,h2⟩:=wh.1 h i (by simpa[ao.len]using hi)
  rw[ao.nq _ (show i<(ao.ints .u8 l).len from hi)]at h2
  simp only[ao.get,BP,Aq,sr,rP,ss,su,sw,sx,tD,tZ,ua,ub,uc,ud,ue,uf,ug,uh,and_true]at h2
  obtain⟨v,hv,hp⟩:=h2
  simp only[aX,Nat.mul_one,bG,aY]at hv
  rw[hv,hp]
  simp[aK,hi]
 ·rw[aM (by omega),aM (by simp;omega)]
theorem xG{P:Program}{T:fq}(hT:jz P T){s e d:TypeId}{n a1 a2:Nat}{a3:List rb}{a4:Option (List D)}{a5:Bool}(hs:T.get s=some ⟨.slice e n,a1,a2,a3,a4,a5⟩){x:D}{R:Rows}{K:D->Prop}(h:wo T e d x R K):
 ∃val,K val/\∀c w v,Mem c w->mJ c R->Rep c w x v->Ge P (convert s d v) w c val:=by
 unfold wo at h
 split at h
 ·rename_i he hd
  have oa:=mX hT hs
  have rL:=mX hT he
  have KC:=mX hT hd
  simp only at oa rL KC
  split at h
  ·rename_i sy es jW
   split at h
   rotate_left
   ·exact h.elim
   rename_i l hto
   have KD:=ao.toI_l hto
   simp only[da,aI]at h
   obtain⟨h5,h⟩:=h
   have h5:sy=1\/es.l=[]:=h5.imp bE SF
   refine⟨_,h,λc w v hm hA hr=>?_⟩
   have hsl:∃a cap,v=.slice a es.l.length cap:=by
    cases x<;>simp only[sA]at jW<;>try(cases jW;done)
    case du=>cases jW;exact⟨none,0,hr⟩
    case emp=>cases jW;obtain⟨a,hr,_⟩:=hr;exact⟨a,0,hr⟩
    case sl=>cases jW;obtain⟨a,cap,hv,_⟩:=hr;exact⟨a,cap,hv⟩
    case all r=>
     split at jW
     ·rename_i jU s' jc hR
      cases jW
      obtain⟨row,g1,g2,hv⟩:=hr
      have:=hA r row _ g1 hR
      subst this
      rcases hv with⟨hV,a,hv,_⟩|⟨hV,cap,arr,hv,_⟩
      ·have he:=(hm.oe g1 hV).2.1
       simp only at he
       exact⟨a,0,by rw[he];exact hv⟩
      ·exact⟨_,cap,hv⟩
     ·cases jW
    case own r o m=>
     split at jW
     ·rename_i jU s' jc hR
      cases jW
      obtain⟨row,g1,g2,g5,hv⟩:=hr
      have:=hA r row _ g1 hR
      subst this
      simp only at g5
      have hlen:((jc.drop o).take m).l.length=m:=by rw[ao.iZ,ao.kb];simp only[bD,bF];omega
      rw[hlen]
      rcases hv with⟨h0,a,hv,_⟩|⟨hV,cap,arr,_,_,_,hv,_⟩
      ·subst h0;exact⟨a,0,hv⟩
      ·exact⟨_,cap,hv⟩
     ·cases jW
   obtain⟨a,cap,hv⟩:=hsl
   subst hv
   obtain⟨news,s1,s2,s3,s4⟩:=y8 (P:=P) (by omega) jW h5 hm hA hr
   rw[KD]at s1 s4
   have hn:=Zp s4 s1
   have hlen:es.l.length=l.length:=by rw[KD];simp[ao.len]
   have hf:=s3 es.l.length (aO _) w rfl
   rw[List.take_of_length_le (by rw[hn,hlen];simp)]at hf
   refine⟨.string ⟨(bytesOf l).toArray⟩,?_,rfl⟩
   rw[run_convert_bytes_string w s d e a es.l.length cap oa.1 rL KC]
   cases a with
   |none=>
    simp only[Builtin.firstCells,Sem.run_pure,Result.ok.injEq,and_true]at hf
    have h1:news=[]:=by
     have:=congrArg Array.toList hf
     simpa using this.symm
    have he:l=[]:=by rw[h1]at hn;simpa using hn.symm
    subst he
    simp only[Conv.bytesToString,Sem.run_pure,bytesOf,List.map_nil]
    rfl
   |some a=>
    simp only[Builtin.firstCells,Nat.mul_one]at hf
    rw[hn]at hf
    rw[run_bytesToString w a es.l.length cap _ hf,foldl_push_bytes]
    have he0:ByteArray.empty.data= #[]:=rfl
    rw[he0]
    simp[bytesOf]
  ·exact h.elim
 ·exact h.elim
structure Aj(c0:Ctx)(w0:World)(c:Ctx)(w:World):Prop where
 bz:jk c0 w0 c w
 fr:Fr (λb=>(∃r x,c0.R r=some x/\¬c0.V r/\c0.ρ r=b)\/c0.X b) w0 w
 fu:∀b,c.I b->c0.I b\/c0.X b\/w0.heap.size<=b
 og:∀r row,c.R r=some row->¬c.V r->((∃x,c0.R r=some x)/\¬c0.V r/\c.ρ r=c0.ρ r)\/c0.X (c.ρ r)\/w0.heap.size<=c.ρ r
 xb:∀b,c0.X b->c0.base<=b
theorem Aj.refl(c:Ctx)(w:World):Aj {c with X:=λ_=>False} w c w:=
 ⟨⟨rfl,aO _,λ_ h=>⟨h,rfl⟩,λ_ row h=>⟨row,h,rfl,rfl,rfl,rfl,rfl,Iff.rfl,λ_ arr h=>⟨arr,h,rfl⟩⟩⟩,Fr.refl _ w,λ_ h=>.inl h,λ_ row h v=>.inl ⟨⟨row,h⟩,v,rfl⟩,λ_ h=>h.elim⟩
theorem Zkv{c0 c:Ctx}{w0 w:World}{M:Nat}{ks:List Nat}(hM:∀k,bw k ks=true->M<=k)(EI:∀r row,c0.R r=some row->r<M)(h:jk c0 w0 c w):jk c0 w0 (c.kill ks) w:=by
 refine⟨h.base,h.top,h.I,λr row hr=>?_⟩
 obtain⟨ak,g1,g2,g3,g4,g5,g6,gV,g7⟩:=h.R r row hr
 obtain⟨s1,s2,s3,s4⟩:=wq ks ak
 have cg:=EI r row hr
 refine⟨ak.kill ks,?_,s1.trans g2,s2.trans g3,s3.trans g4,s4.trans g5,g6,gV,g7⟩
 simp only[Ctx.kill]
 rw[if_neg (λe=>by have:=hM r e;omega),g1];rfl
theorem Aj.step{c0 c c':Ctx}{w0 w w':World}{M:Nat}{ks:List Nat}(hM:∀k,bw k ks=true->M<=k)(EI:∀r row,c0.R r=some row->r<M)(h:Aj c0 w0 c w)(n:jF ks c w c' w'):Aj c0 w0 c' w':=by
 have BQ:∀s x,bw s ks=true->c.R s=some x->¬c.V s->c0.X (c.ρ s)\/w0.heap.size<=c.ρ s:=λs x hs hx v'=>by
  rcases h.og s x hx v' with⟨⟨y,hy⟩,_⟩|e'
  ·have:=EI s y hy;have:=hM s hs;omega
  ·exact e'
 refine⟨(Zkv hM EI h.bz).trans n.bz,⟨n.fr.os.trans h.fr.os,n.fr.tape.trans h.fr.tape,n.fr.output.trans h.fr.output,bH h.fr.size n.fr.size,λb hb hx=>?_⟩,λb hb=>?_,λr row hr hv=>?_,h.xb⟩
 ·have cg:b<w.heap.size:=bI hb h.fr.size
  refine(n.fr.heap b cg fun⟨r,x,hr,v,e⟩=>?_).trans (h.fr.heap b hb hx)
  rcases h.og r x hr v with⟨⟨y,hy⟩,v',e'⟩|e'|e'
  ·exact hx (.inl ⟨r,y,hy,v',by rw[<-e',e]⟩)
  ·exact hx (.inr (by rw[<-e];exact e'))
  ·omega
 ·rcases n.fu b hb with h1|⟨s,x,hs,hx,v',e⟩|h1
  ·exact h.fu b h1
  ·rcases BQ s x hs hx v' with h1|h1
   ·exact .inr (.inl (by rw[<-e];exact h1))
   ·exact .inr (.inr (by omega))
  ·have:=h.fr.size;exact .inr (.inr (by omega))
 ·rcases n.og r row hr hv with⟨⟨x,hx⟩,v',e⟩|⟨s,x,hs,hx,v',e⟩|e
  ·rcases h.og r x hx v' with⟨h1,h2,e'⟩|e'|e'
   ·exact .inl ⟨h1,h2,e.trans e'⟩
   ·exact .inr (.inl (by rw[e];exact e'))
   ·exact .inr (.inr (by omega))
  ·rcases BQ s x hs hx v' with h1|h1
   ·exact .inr (.inl (by rw[e];exact h1))
   ·exact .inr (.inr (by omega))
  ·have:=h.fr.size;exact .inr (.inr (by omega))
def mc(n:Nat)(w:World)(ds:List Deferred):Prop:=∃bs:List Nat,bs.Nodup/\ds=bs.map (λb=>({target:=.collected b,args:= #[]}:Deferred))/\∀b∈bs,n<=b/\w.heap[b]?=some (.deferred (some []))
theorem mc.nil{n:Nat}{w:World}:mc n w []:=⟨[],List.nodup_nil,rfl,λb hb=>by simp at hb⟩
theorem mc.to{n:Nat}{w w':World}{ds:List Deferred}(h:mc n w ds)(hf:∀b:Nat,w.heap[b]?=some (Obj.deferred (some []))->w'.heap[b]?=some (Obj.deferred (some []))):mc n w' ds:=by
 obtain⟨bs,h1,h2,h3⟩:=h
 exact⟨bs,h1,h2,λb hb=>⟨(h3 b hb).1,hf b (h3 b hb).2⟩⟩
theorem mc.step{n:Nat}{c:Ctx}{w w':World}{ds:List Deferred}(h:mc n w ds)(hm:Mem c w)(hf:Fr (λb=>∃r x,c.R r=some x/\¬c.V r/\c.ρ r=b) w w'):mc n w' ds:=by
 refine h.to λb h2=>(hf.heap b (Array.getElem?_eq_some_iff.1 h2).1 fun⟨r,x,hr,hV,e⟩=>?_).trans h2
 rcases hm.row r x hr with h3|⟨_,arr,h3,_⟩
 ·exact hV h3.1
 ·rw[e,h2]at h3;cases h3
theorem mc.put{n:Nat}{w:World}{a:Act}{dst:Option Tmp}{v:Value}(h:mc n w a.defers):mc n w (a.put dst v).defers:=by
 cases dst<;>exact h
structure fw(N M:Nat)(c0:Ctx)(w0:World)(c:Ctx)(w:World)(st:St)(a:Act):Prop where
 mem:Mem c w
 rows:∀r,c.R r=st.rows.getD r none
 env:∀t,Rep c w (look st.env t) (a.tmps.getD t undef)
 size:N<=a.tmps.size
 defers:mc w0.heap.size w a.defers
 gh:c0.base<=w0.heap.size
 gw:∀r row,c0.R r=some row->r<M
 reach:Aj c0 w0 c w
theorem fw.base{N M:Nat}{c0:Ctx}{w0:World}{c:Ctx}{w:World}{st:St}{a:Act}(h:fw N M c0 w0 c w st a):c.base<=w.heap.size:=by
 rw[h.reach.bz.base];exact bH h.gh h.reach.fr.size
theorem Kx{c:Ctx}{w:World}{env:List (Nat×D)}{a:Act}(f:Nat):Rep c w (bq env (.func f)) (a.eval (.func f)):=by
 simp only[bq,Act.eval]
 cases h:bJ f YB with
 |false=>trivial
 |true=>exact⟨[],.inl ⟨lE h,rfl⟩,trivial⟩
theorem Nn{c:Ctx}{w:World}{env:List (Nat×D)}{a:Act}(h:∀t,Rep c w (look env t) (a.tmps.getD t undef))(x:Operand):Rep c w (bq env x) (a.eval x):=by
 cases x with
 |tmp t=>exact h t
 |const v=>
  simp only[bq,Act.eval]
  cases hv:Gc v with
  |none=>trivial
  |some d=>exact Nf hv c w
 |global g=>trivial
 |func f=>exact Kx f
def sf(env:List (Nat×D))(dst:Option Tmp)(d:D):List (Nat×D):=match dst with|none=>env|some t=>(t,d)::env
theorem Bl(env:List (Nat×D))(t:Nat)(d:D)(s:Nat):look ((t,d)::env) s=if t=s then d else look env s:=by
 simp only[look]
 cases hb:Nat.beq t s with
 |true=>rw[if_pos (bE hb)]
 |false=>rw[if_neg (λe=>by rw[e]at hb;simp at hb)]
theorem Z9{c:Ctx}{w:World}{env:List (Nat×D)}{a:Act}{N:Nat}(hN:N<=a.tmps.size){dst:Option Tmp}(hd:∀t,dst=some t->t<N){d:D}{v:Value}(h:∀t,Rep c w (look env t) (a.tmps.getD t undef))(hv:Rep c w d v)(t:Nat):
 Rep c w (look (sf env dst d) t) ((a.put dst v).tmps.getD t undef):=by
 cases dst with
 |none=>exact h t
 |some s=>
  have hs:=hd s rfl
  simp only[sf,Act.put,Bl]
  by_cases e:s=t
  ·subst e
   rw[if_pos rfl]
   have cg:s<a.tmps.size:=bI hs hN
   simpa[aP,cg]using hv
  ·rw[if_neg e]
   have:=h t
   simpa[Array.getElem?_setIfInBounds_ne e]using this
def jq:List Operand->Nat
 |[]=>1
 |.tmp t::l=>t+1+jq l
 |_::l=>jq l
theorem Ze:∀{l:List Operand},0<jq l
 |[]=>by simp[jq]
 |x::l=>by cases x<;>simp only[jq]<;>have:=Ze (l:=l)<;>omega
theorem SH{t:Nat}:∀{l:List Operand},.tmp t∈l->t<jq l
 |x ::l,h=>by
  rcases List.mem_cons.1 h with e|e
  ·subst e;simp only[jq];omega
  ·have:=SH e
   cases x<;>simp only[jq]<;>omega
def Gf(B:Nat):List iv->List (Nat×D)
 |[]=>[]
 |x::l=>(B,x.d)::Gf (B+1) l
theorem No{env:List (Nat×D)}:∀{cs:List iv} {B t:Nat},look (Gf B cs++env) t=if h:B<=t/\t-B<cs.length then(cs[t-B]'h.2).d else look env t
 |[],B,t=>by simp[Gf]
 |x ::l,B,t=>by
  simp only[Gf,List.cons_append,Bl,No (cs:=l) (B:=B+1)]
  by_cases e:B=t
  ·subst e;simp
  ·rw[if_neg e]
   by_cases h:B+1<=t/\t-(B+1)<l.length
   ·rw[dif_pos h,dif_pos (by simp;omega)]
    have:t-B=(t-(B+1))+1:=by omega
    simp only[this,List.getElem_cons_succ]
   ·rw[dif_neg h,dif_neg (by simp;omega)]
def EJ(args:Array Operand)(n:Nat):Array Operand:=(args.toList++(bK (jq args.toList) n).map Operand.tmp).toArray
def tE(a:Act)(B:Nat)(us:List Value):Act:={tmps:=((List.range B).map (λi=>a.tmps.getD i undef)++us).toArray,defers:=[]}
theorem Zgs{a:Act}{B:Nat}{us:List Value}{t:Nat}(h:t<B):(tE a B us).tmps.getD t undef=a.tmps.getD t undef:=by
 simp[tE,aP,h,List.getElem_append]
 omega
theorem Zhx{a:Act}{B:Nat}{us:List Value}{i:Nat}:(tE a B us).tmps.getD (B+i) undef=us.getD i undef:=by
 simp only[tE,Array.getD_eq_getD_getElem?,aY]
 rw[bB (by simp)]
 simp[aK]
theorem oM.length{c:Ctx}{w:World}:∀{cs:List iv} {us:List Value},oM c w cs us->us.length=cs.length
 |[],[],_=>rfl
 |_::_,_::_,h=>by simp[oM.length h.2]
 |[],_::_,h=>h.elim
 |_::_,[],h=>h.elim
theorem oM.get{c:Ctx}{w:World}:∀{cs:List iv} {us:List Value},oM c w cs us->∀i (h:i<cs.length),SI c w (cs[i]'h) (us.getD i undef)
 |[],[],_,i,h=>by simp at h
 |_::_,_::_,h,0,_=>by simpa using h.1
 |_::_,_::_,h,i+1,hi=>by simpa using oM.get h.2 i (by simpa using hi)
 |[],_::_,h,_,_=>h.elim
 |_::_,[],h,_,_=>h.elim
theorem Z99{env:List (Nat×D)}{args:Array Operand}{cs:List iv}:(EJ args cs.length).toList.map (bq (Gf (jq args.toList) cs++env))=args.toList.map (bq env)++cs.map iv.d:=by
 simp only[EJ,bL]
 congr 1
 ·refine bM λx hx=>?_
  cases x with
  |tmp t=>simp only[bq,No];rw[dif_neg (by have:=SH hx;omega)]
  |_=>rfl
 ·refine bN (by simp) λi h1 h2=>?_
  have:i<cs.length:=by simpa using h2
  simp only[bO,bP,bq,No]
  rw[dif_pos (by omega)]
  congr 1
  simp
theorem Qzi{a:Act}{args:Array Operand}{us:List Value}:(EJ args us.length).toList.map (tE a (jq args.toList) us).eval=args.toList.map a.eval++us:=by
 simp only[EJ,bL]
 congr 1
 ·refine bM λx hx=>?_
  cases x with
  |tmp t=>exact Zgs (SH hx)
  |_=>rfl
 ·refine bN (by simp) λi h1 h2=>?_
  have:i<us.length:=h2
  simp only[bO,bP,Act.eval,Nat.one_mul]
  rw[Zhx]
  simp[aK,this]
theorem BR{c:Ctx}{w:World}{env:List (Nat×D)}{a:Act}{args:Array Operand}{cs:List iv}{us:List Value}(hl:∀x∈args.toList,Rep c w (bq env x) (a.eval x))(hc:oM c w cs us):∀x∈(EJ args cs.length).toList,Rep c w (bq (Gf (jq args.toList) cs++env) x) ((tE a (jq args.toList) us).eval x):=by
 intro x hx
 simp only[EJ,List.mem_append,List.mem_map]at hx
 rcases hx with hx|⟨t,ht,rfl⟩
 ·have:=hl x hx
  cases x with
  |tmp t=>
   have cg:=SH hx
   simp only[bq,No,Act.eval]
   rw[dif_neg (by omega),Zgs cg]
   exact this
  |_=>exact this
 ·rw[List.mem_range'_1]at ht
  obtain⟨i,hi,rfl⟩:∃i:Nat,i<cs.length/\t=jq args.toList+i:=⟨t-jq args.toList,Nat.sub_lt_left_of_lt_add ht.1 ht.2,(Nat.add_sub_cancel' ht.1).symm⟩
  have h2:=oM.get hc i hi
  have h3:look (Gf (jq args.toList) cs++env) (jq args.toList+i)=(cs[i]'hi).d:=by
   rw[No,dif_pos ⟨by omega,by omega⟩]
   congr 1
   simp
  simp only[bq,Act.eval]
  rw[h3,Zhx]
  exact Rep.KE (VRep.EK (Wv.1 h2))
theorem zaE{P:Program}{f:FuncId}(he:∀args w,(callFunc f args).run P w=.ok (.enter f args) w){dst:Option Tmp}{t:Tmp}{args:Array Operand}{dc:Array TypeId}{type:TypeId}{pos:String}{after:Array Edge}{guard:Option (Nat×Bool)}{a:Act}{w:World}{us:List Value}
 (ht:a.eval (.tmp t)=.func (.func f) #[] us.toArray) {K:Act->World->Prop} {Q:Exit->Act->World->Prop}
 (h:(⟨some 0,.call ⟨.value (.func f),EJ args us.length,dc⟩,type,pos,after,guard⟩:Oper).nm P (tE a (jq args.toList) us) w (λa' w'=>K (a.put dst (a'.tmps.getD 0 undef)) w') (λ_ _ _=>False)):
 (⟨dst,.call ⟨.value (.tmp t),args,dc⟩,type,pos,after,guard⟩:Oper).nm P a w K Q:=by
 have hv:=Qzi (a:=a) (args:=args) (us:=us)
 have r1:(execOp (tE a (jq args.toList) us).eval (⟨some 0,.call ⟨.value (.func f),EJ args us.length,dc⟩,type,pos,after,guard⟩:Oper)).run P w=.ok (.enter f (args.toList.map a.eval++us).toArray) w:=by
  simp only[execOp,resolve,Act.eval,Deferred.ofValue,Sem.run_bind,Sem.run_pure,Result.andThen_ok,invoke,bQ,Array.append_empty]
  rw[he,<-hv,<-bR,bS]
 have r2:(execOp a.eval (⟨dst,.call ⟨.value (.tmp t),args,dc⟩,type,pos,after,guard⟩:Oper)).run P w=.ok (.enter f (args.toList.map a.eval++us).toArray) w:=by
  simp only[execOp,resolve,ht,Deferred.ofValue,Sem.run_bind,Sem.run_pure,Result.andThen_ok,invoke,bQ]
  rw[he]
  congr 2
  rw[<-List.append_toArray,<-bR,bS]
 have cg:0<(tE a (jq args.toList) us).tmps.size:=by have:=Ze (l:=args.toList);simp[tE];omega
 unfold Oper.nm at h⊢
 rw[r1]at h
 rw[r2]
 refine Calls.mono h λe w' ⟨v,he,hp⟩=>⟨v,he,?_⟩
 have:((tE a (jq args.toList) us).put (some 0) v).tmps.getD 0 undef=v:=by
  simp only[Act.put]
  simp[aP,cg]
 simp only[this]at hp
 exact hp
theorem zG{P:Program}{dst:Option Tmp}{t:Tmp}{args:Array Operand}{dc:Array TypeId}{type:TypeId}{pos:String}{after:Array Edge}{guard:Option (Nat×Bool)}{a:Act}{w:World}{l:Nat}{rec:Loop}
 (ht:a.eval (.tmp t)=.func (.yield l) #[] #[]) (hl:w.heap[l]?=some (.loop rec)) {K:Act->World->Prop} {Q:Exit->Act->World->Prop} (hs:(args.toList.map a.eval).length=rec.params.size)
 (h:RoundIn Fence.wide 0 P l rec.fn ((rec.params.zip (args.toList.map a.eval).toArray).foldl (λtmps (t,a)=>tmps.setIfInBounds t a) rec.tmps) rec.assign rec.body w λe w'=>∃v,e=.returned v/\K (a.put dst v) w'):
 (⟨dst,.call ⟨.value (.tmp t),args,dc⟩,type,pos,after,guard⟩:Oper).nm P a w K Q:=by
 have r2:(execOp a.eval (⟨dst,.call ⟨.value (.tmp t),args,dc⟩,type,pos,after,guard⟩:Oper)).run P w=.ok (.round l rec.fn ((rec.params.zip (args.toList.map a.eval).toArray).foldl (λtmps (t,a)=>tmps.setIfInBounds t a) rec.tmps) rec.assign rec.body) w:=by
  simp only[execOp,resolve,ht,Deferred.ofValue,Sem.run_bind,Sem.run_pure,Result.andThen_ok,invoke,bQ]
  have hy:=run_yield (P:=P) (args:=(args.toList.map a.eval).toArray) hl (by simpa using hs)
  rw[<-hy,<-bR,bS]
 unfold Oper.nm
 rw[r2]
 exact h
section
variable {P:Program} {G:List bc} {M:Nat} {dst:Option Tmp} {f:FuncId} {t:Tmp} {args:Array Operand} {dc:Array TypeId} {type:TypeId} {pos':String} {after:Array Edge} {guard:Option (Nat×Bool)} {env:List (Nat×D)} {cs:List iv} {R:Rows}
theorem Np{x:bc}(dw:bj P x)(hf:x.f=f)(hy:f<YB)(ht:look env t=.gq f cs){ks:List Nat}{val:D}{R':Rows}
 (h:BS P ⟨some 0,.call ⟨.value (.func f),EJ args cs.length,dc⟩,type,pos',after,guard⟩ (bq (Gf (jq args.toList) cs++env)) R ks val R'):BS P ⟨dst,.call ⟨.value (.tmp t),args,dc⟩,type,pos',after,guard⟩ (bq env) R ks val R':=by
 intro c w a hm hb hR eu K Q hK
 have h1:=eu (.tmp t) (by simp[Op.operands,Call.operands])
 simp only[bq,ht]at h1
 obtain⟨us,⟨_,hv⟩|⟨pK,_⟩,hc⟩:=h1
 rotate_left
 ·exact absurd hy (Nat.not_lt.2 pK)
 have hl:us.length=cs.length:=hc.length
 refine zaE (λaz w=>by rw[<-hf];exact dw.enters (by rw[hf];exact hy) az w) hv ?_
 rw[hl]
 refine h c w _ hm hb hR (λy hy=>?_) _ _ λv w' c' hn jV hr=>?_
 ·have gb:∀x∈args.toList,Rep c w (bq env x) (a.eval x):=λy hy=>eu y (by simp[Op.operands,Call.operands];exact .inr (by simpa using hy))
  simp only[Op.operands,Call.operands]at hy
  rcases Array.mem_append.1 hy with hy|hy
  ·simp at hy;subst hy;exact Kx _
  ·exact BR gb hc y (by simpa using hy)
 ·have cg:0<(tE a (jq args.toList) us).tmps.size:=by have:=Ze (l:=args.toList);simp[tE];omega
  have:((tE a (jq args.toList) us).put (some 0) v).tmps.getD 0 undef=v:=by
   simp only[Act.put]
   simp[aP,cg]
  show K (a.put dst (((tE a (jq args.toList) us).put (some 0) v).tmps.getD 0 undef)) w'
  rw[this]
  exact hK v w' c' hn jV hr
theorem Zp7{K:D->Rows->Prop}(hG:jT P G)(lR:o8 G f=none)(ht:look env t=.gq f cs)(h:KF G f (args.toList.map (bq env)++cs.map iv.d) R K):∃val R',K val R'/\BS P ⟨dst,.call ⟨.value (.tmp t),args,dc⟩,type,pos',after,guard⟩ (bq env) R [] val R':=by
 rw[<-Z99]at h
 obtain⟨val,R',x,h1,h2,h3,_⟩:=Ww (dst:=some 0) (dc:=dc) (type:=type) (pos':=pos') (after:=after) (guard:=guard) hG lR h
 obtain⟨dw,hf⟩:=Gg hG h2
 have wu:x.gone=none:=by simpa[o8,h2]using lR
 exact⟨val,R',h1,Np dw hf (by rw[<-hf];exact dw.real wu) ht h3.toK⟩
theorem qb{k:Nat}{K:List Nat->D->Rows->Prop}(hG:jT P G)(o9:(bJ f YB||Nat.beq args.size 1)=true)(lR:o8 G f=some k)(ht:look env t=.gq f cs)(h:Io G M f k (args.toList.map (bq env)++cs.map iv.d) R K):∃ks val R',K ks val R'/\(∀j,bw j ks=true->M<=j)/\BS P ⟨dst,.call ⟨.value (.tmp t),args,dc⟩,type,pos',after,guard⟩ (bq env) R ks val R':=by
 rw[<-Z99]at h
 by_cases hy:f<YB
 ·obtain⟨ks,val,R',x,h1,h2,h3,h4,h5⟩:=Zlu hG hy (dst:=some 0) (dc:=dc) (type:=type) (pos':=pos') (after:=after) (guard:=guard) lR h
  obtain⟨dw,hf⟩:=Gg hG h2
  exact⟨ks,val,R',h1,h4,Np dw hf hy ht h5⟩
 ·obtain⟨ks,val,R',x,h1,h2,h3,h4,h5⟩:=Wx hG lR h
  refine⟨ks,val,R',h1,h4,λc w a hm hb hR eu K' Q re=>?_⟩
  have h1:=eu (.tmp t) (by simp[Op.operands,Call.operands])
  simp only[bq,ht]at h1
  obtain⟨us,⟨cg,_⟩|⟨pK,l,rec,hv,hI,hl,mY⟩,hc⟩:=h1
  ·exact absurd cg hy
  have gb:∀x∈args.toList,Rep c w (bq env x) (a.eval x):=λy hy=>eu y (by simp[Op.operands,Call.operands];exact .inr (by simpa using hy))
  have hlen:us.length=cs.length:=hc.length
  have iY:(args.toList.map a.eval).length=1:=by
   rcases Bool.or_eq_true_iff.1 o9 with e|e
   ·exact absurd (lE e) hy
   ·simpa using bE e
  have fx:(args.toList.map a.eval).length=rec.params.size:=by
   obtain⟨_,_,y,_,hp,_,_,_,h1,_⟩:=mY
   rw[hp,h1];exact iY
  exact zG hv hl fx ((h5 c w (tE a (jq args.toList) us).eval hm hb hR (λy hy=>BR gb hc y hy) (λv w'=>K' (a.put dst v) w') λv w' c'=>re v w' c').2 (Nat.le_of_not_lt hy) l rec (args.toList.map a.eval) us (by rw[<-hlen,Qzi]) hI hl mY iY)
end
def pI(P:Program)(G:List bc)(M:Nat)(o:Oper)(ev:Operand->D)(R:Rows)(ks:List Nat)(val:D)(R':Rows):Prop:=
 if sg G o.op=true then(∀k,bw k ks=true->M<=k)/\BS P o ev R ks val R' else ks=[]/\pL P o ev R val R'
theorem pI.toK{P:Program}{G:List bc}{M:Nat}{o:Oper}{ev:Operand->D}{R:Rows}{ks:List Nat}{val:D}{R':Rows}(h:pI P G M o ev R ks val R'):(∀k,bw k ks=true->M<=k)/\BS P o ev R ks val R':=by
 unfold pI at h
 split at h
 ·exact h
 ·obtain⟨rfl,h⟩:=h
  exact⟨λk hk=>by simp[bw]at hk,h.toW.toK⟩
theorem BT{P:Program}{G:List bc}{M:Nat}{o:Oper}{ev:Operand->D}{R:Rows}{val:D}{R':Rows}(hw:sg G o.op=false)(h:pL P o ev R val R'):pI P G M o ev R [] val R':=by
 unfold pI;rw[hw];exact⟨rfl,h⟩
theorem BU{P:Program}{G:List bc}{M:Nat}{o:Oper}{ev:Operand->D}{R:Rows}{ks:List Nat}{val:D}{R':Rows}(hw:sg G o.op=true)(hk:∀k,bw k ks=true->M<=k)(h:BS P o ev R ks val R'):pI P G M o ev R ks val R':=by
 unfold pI;rw[if_pos hw];exact⟨hk,h⟩
def nA(P:Program)(G:List bc)(M:Nat)(ops:Array Oper)(o:Oper)(env:List (Nat×D))(R:Rows)(ks:List Nat)(val:D)(R':Rows):Prop:=
 match o.guard with
 |none=>pI P G M o (bq env) R ks val R'
 |some (j,want)=>∃g,(ops[j]?).bind (·.dst)=some g/\((∃b,look env g=.bool b/\(if b=want then pI P G M o (bq env) R ks val R' else ks=[]/\val=.dt []/\R'=R))\/(look env g=.dt []/\ks=[]/\val=.dt []/\R'=R))
theorem pb{N:Nat}{st:St}{dst:Option Tmp}{d:D}{R:Rows}{K:St->Prop}(h:st.put N dst d R K):(∀t,dst=some t->t<N)/\K ⟨sf st.env dst d,R⟩:=by
 cases dst with
 |none=>exact⟨λt h=>(by cases h),h⟩
 |some t=>
  simp only[St.put,da]at h
  refine⟨λs hs=>?_,h.2⟩
  cases hs
  exact lE h.1
theorem zb(d:D):d.kill []=d:=by
 cases d with
 |agg cs=>show D.agg (D.kA [] cs)=_;rw[Wy]
 |gq f cs=>exact Wz (.gq f cs)
 |_=>rfl
theorem Zf7:∀{ds:List D},D.pM [] ds=ds
 |[]=>rfl
 |d::l=>by simp[D.pM,zb,Zf7 (ds:=l)]
theorem yb(d:D):d.gr []=d:=by
 cases d with
 |dt ds=>show D.dt (D.pM [] ds)=_;rw[Zf7]
 |agg cs=>exact zb (.agg cs)
 |gq f cs=>exact Wz (.gq f cs)
 |_=>rfl
theorem o4{env:List (Nat×D)}{t:Nat}:look (se [] env) t=look env t:=by rw[BV,yb]
theorem Zme{P:Program}{T:fq}(hT:jz P T){G:List bc}(hG:jT P G){N M:Nat}{o:Oper}{st:St}{K:St->Prop}(h:lS T G N M o st K):
 ∃ks val R' iL,(∀t,look iL t=look (se ks st.env) t)/\(∀t,o.dst=some t->t<N)/\K ⟨sf iL o.dst val,R'⟩/\pI P G M o (bq st.env) st.rows ks val R':=by
 have plain:(sg G o.op=Gh o.op)->(ie T o.op (bq st.env) st.rows λd R=>st.put N o.dst d R K)->∃ks val R' iL,(∀t,look iL t=look (se ks st.env) t)/\(∀t,o.dst=some t->t<N)/\K ⟨sf iL o.dst val,R'⟩/\pI P G M o (bq st.env) st.rows ks val R':=by
  intro hw h
  obtain⟨val,R',hK,hO⟩:=Nq hT o _ _ _ h
  obtain⟨h1,h2⟩:=pb hK
  refine⟨[],_,_,st.env,λt=>o4.symm,h1,h2,?_⟩
  split at hO
  ·rename_i hs
   exact BU (hw.trans hs) (λk hk=>by simp[bw]at hk) hO.toK
  ·rename_i hs
   exact BT (by rw[hw];simpa using hs) hO
 unfold lS at h
 split at h
 ·rename_i cc x y ho
  split at h
  ·rename_i b hb
   have hw:sg G o.op=false:=by rw[ho];rfl
   have go:∀z,z∈o.op.operands->(∀c w (a:Act),Rep c w (bq st.env cc) (a.eval cc)->(execOp a.eval o).run P w=.ok (.value (a.eval z)) w)->(bq st.env z).force (λd=>st.put N o.dst d st.rows K)->
    ∃ks val R' iL,(∀t,look iL t=look (se ks st.env) t)/\(∀t,o.dst=some t->t<N)/\K ⟨sf iL o.dst val,R'⟩/\pI P G M o (bq st.env) st.rows ks val R':=by
    intro z hz ig h
    rw[D.cq]at h
    obtain⟨h1,h2⟩:=pb h
    exact⟨[],_,_,st.env,λt=>o4.symm,h1,h2,BT hw (mZ λc w a hm hA eu=>⟨_,ig c w a (eu cc (by rw[ho];simp[Op.operands])),eu z hz⟩)⟩
   cases b with
   |true=>
    refine go x (by rw[ho];simp[Op.operands]) (λc w a hc=>?_) h
    rw[hb]at hc
    simp only[execOp,ho,Rep.bool.1 hc,asBool,Sem.run_bind,Sem.run_pure,Result.andThen_ok,if_true]
   |false=>
    refine go y (by rw[ho];simp[Op.operands]) (λc w a hc=>?_) h
    rw[hb]at hc
    simp only[execOp,ho,Rep.bool.1 hc,asBool,Sem.run_bind,Sem.run_pure,Result.andThen_ok,aN,if_false]
  ·exact h.elim
 ·rename_i f args dc ho
  obtain⟨dst,op,type,pos,after,guard⟩:=o
  simp only at ho
  subst ho
  split at h
  ·rename_i lR
   split at h
   rotate_left
   ·rename_i DI
    obtain⟨ks,val,R',x,hK,hx,hM,hO⟩:=qR (dst:=dst) (type:=type) (pos':=pos) (after:=after) (guard:=guard) (dc:=dc) hG lR h
    rw[Ip]at hK
    obtain⟨h1,h2⟩:=pb hK
    refine⟨ks,_,_,_,λt=>rfl,h1,h2,BU ?_ hM hO⟩
    have DI:x.pf=true:=by simpa[BW,hx]using DI
    cases nB:x.refs with
    |nil=>simp only[sg,hx,nB,DI]
    |cons b bs=>simp only[sg,hx,nB]
   rename_i DI
   have Iq:∀x,oO G f=some x->x.pf=false:=λx hx=>by simpa[BW,hx]using DI
   obtain⟨val,R',x,hK,hx,hO,hN⟩:=Ww (dst:=dst) (type:=type) (pos':=pos) (after:=after) (guard:=guard) (dc:=dc) hG lR h
   obtain⟨h1,h2⟩:=pb hK
   refine⟨[],_,_,st.env,λt=>o4.symm,h1,h2,?_⟩
   cases hr:x.refs with
   |nil=>exact BT (by simp only[sg,hx,hr,Iq x hx]) (hN hr)
   |cons b bs=>exact BU (by simp only[sg,hx,hr]) (λk hk=>by simp[bw]at hk) hO.toK
  ·rename_i k lR
   obtain⟨hy,h⟩:=da.1 h
   obtain⟨ks,val,R',x,hK,hx,hr,hM,hO⟩:=Zlu hG (lE hy) (dst:=dst) (type:=type) (pos':=pos) (after:=after) (guard:=guard) (dc:=dc) lR h
   rw[Ip]at hK
   obtain⟨h1,h2⟩:=pb hK
   refine⟨ks,_,_,_,λt=>rfl,h1,h2,BU ?_ hM hO⟩
   cases nB:x.refs with
   |nil=>exact(hr nB).elim
   |cons b bs=>simp only[sg,hx,nB]
 ·rename_i t args dc ho
  obtain⟨dst,op,type,pos,after,guard⟩:=o
  simp only at ho
  subst ho
  split at h
  ·rename_i f cs ht
   split at h
   ·rename_i lR
    split at h
    ·obtain⟨val,R',hK,hO⟩:=Zp7 (dst:=dst) (type:=type) (pos':=pos) (after:=after) (guard:=guard) (dc:=dc) hG lR ht h
     obtain⟨h1,h2⟩:=pb hK
     exact⟨[],_,_,st.env,λt=>o4.symm,h1,h2,BU rfl (λk hk=>by simp[bw]at hk) hO⟩
    ·exact h.elim
   ·rename_i k lR
    obtain⟨o9,h⟩:=da.1 h
    obtain⟨ks,val,R',hK,hM,hO⟩:=qb (dst:=dst) (type:=type) (pos':=pos) (after:=after) (guard:=guard) (dc:=dc) hG o9 lR ht h
    rw[Ip]at hK
    obtain⟨h1,h2⟩:=pb hK
    exact⟨ks,_,_,_,λt=>rfl,h1,h2,BU rfl hM hO⟩
  ·exact h.elim
 ·rename_i args dc ho
  obtain⟨dst,op,type,pos,after,guard⟩:=o
  simp only at ho
  subst ho
  split at h
  ·rename_i x y t tx hx ht
   have gb:args= #[x,y]:=by rw[<-bS (xs:=args),hx]
   have ui:dc= #[t,tx]:=by rw[<-bS (xs:=dc),ht]
   subst gb;subst ui
   obtain⟨ks,R',hK,hM,hr⟩:=Zmw (ty:=type) hT h
   rw[Ip]at hK
   obtain⟨h1,h2⟩:=pb hK
   refine⟨ks,_,_,_,λt=>rfl,h1,h2,BU rfl hM λc w a hm hb hR eu K' Q re=>?_⟩
   obtain⟨v',w',c',ig,hn,jV,hv⟩:=hr c w _ _ hm hb hR (eu x (by simp[Op.operands,Call.operands])) (eu y (by simp[Op.operands,Call.operands]))
   refine Gi ?_ (re v' w' c' hn jV hv)
   simp only[execOp,resolve,Sem.run_bind,Sem.run_pure,Result.andThen_ok,invoke,builtin]
   have:(#[x,y]:Array Operand).map a.eval= #[a.eval x,a.eval y]:=by simp
   rw[this,ig];rfl
  ·exact h.elim
 ·rename_i args dc ho
  obtain⟨dst,op,type,pos,after,guard⟩:=o
  simp only at ho
  subst ho
  split at h
  ·rename_i x y t tx hx ht
   have gb:args= #[x,y]:=by rw[<-bS (xs:=args),hx]
   have ui:dc= #[t,tx]:=by rw[<-bS (xs:=dc),ht]
   subst gb;subst ui
   obtain⟨val,R',hK,hr⟩:=ya (ty:=type) hT h
   obtain⟨h1,h2⟩:=pb hK
   refine⟨[],_,_,st.env,λt=>o4.symm,h1,h2,BU rfl (λk hk=>by simp[bw]at hk) (EL.toK λc w a hm hb hR eu K' Q re=>?_)⟩
   obtain⟨v',w',c',ig,hn,jV,hv⟩:=hr c w _ _ hm hR (eu x (by simp[Op.operands,Call.operands])) (eu y (by simp[Op.operands,Call.operands]))
   refine Gi ?_ (re v' w' c' hn jV hv)
   simp only[execOp,resolve,Sem.run_bind,Sem.run_pure,Result.andThen_ok,invoke,builtin]
   have:(#[x,y]:Array Operand).map a.eval= #[a.eval x,a.eval y]:=by simp
   rw[this,ig];rfl
  ·exact h.elim
 ·rename_i args dc ho
  split at h
  ·rename_i x y hx
   obtain⟨val,hK,hr⟩:=Zn0 h
   obtain⟨h1,h2⟩:=pb hK
   refine⟨[],_,_,st.env,λt=>o4.symm,h1,h2,BT (by rw[ho];rfl) (mZ λc w a hm hA eu=>?_)⟩
   have gb:args= #[x,y]:=by rw[<-bS (xs:=args),hx]
   subst gb
   obtain⟨u,hu,hv⟩:=hr P c w _ _ (eu x (by rw[ho];simp[Op.operands,Call.operands])) (eu y (by rw[ho];simp[Op.operands,Call.operands]))
   refine⟨u,?_,hv⟩
   simp only[execOp,ho,resolve,Sem.run_bind,Sem.run_pure,Result.andThen_ok,invoke,builtin]
   have:(#[x,y]:Array Operand).map a.eval= #[a.eval x,a.eval y]:=by simp
   rw[this]
   have hu:=hu.1 rfl dc o.type
   rw[hu];rfl
  ·exact h.elim
 ·rename_i args dc ho
  split at h
  ·rename_i x y hx
   obtain⟨val,hK,hr⟩:=Zn0 h
   obtain⟨h1,h2⟩:=pb hK
   refine⟨[],_,_,st.env,λt=>o4.symm,h1,h2,BT (by rw[ho];rfl) (mZ λc w a hm hA eu=>?_)⟩
   have gb:args= #[x,y]:=by rw[<-bS (xs:=args),hx]
   subst gb
   obtain⟨u,hu,hv⟩:=hr P c w _ _ (eu x (by rw[ho];simp[Op.operands,Call.operands])) (eu y (by rw[ho];simp[Op.operands,Call.operands]))
   refine⟨u,?_,hv⟩
   simp only[execOp,ho,resolve,Sem.run_bind,Sem.run_pure,Result.andThen_ok,invoke,builtin]
   have:(#[x,y]:Array Operand).map a.eval= #[a.eval x,a.eval y]:=by simp
   rw[this]
   have hu:=hu.2 rfl dc o.type
   rw[hu];rfl
  ·exact h.elim
 ·rename_i s d x ho
  split at h
  ·rename_i e _ _ _ _ _ _ hs
   obtain⟨val,hK,hr⟩:=xG hT hs h
   obtain⟨h1,h2⟩:=pb hK
   refine⟨[],_,_,st.env,λt=>o4.symm,h1,h2,BT (by rw[ho];rfl) (mZ λc w a hm hA eu=>?_)⟩
   obtain⟨u,hu,hv⟩:=hr c w _ hm hA (eu x (by rw[ho];simp[Op.operands]))
   refine⟨u,?_,hv⟩
   simp only[execOp,ho]
   rw[Sem.run_bind,hu];rfl
  ·rw[<-ho]at h
   exact plain (by rw[ho];rfl) h
 ·rename_i op t x y ty ho
  split at h
  ·rename_i s es fr hx hy
   obtain⟨hK,hr⟩:=qG hT h
   obtain⟨h1,h2⟩:=pb hK
   refine⟨[],_,_,st.env,λt=>o4.symm,h1,h2,BT (by rw[ho];rfl) (mZ λc w a hm hA eu=>?_)⟩
   have q1:=eu x (by rw[ho];simp[Op.operands])
   have q2:=eu y (by rw[ho];simp[Op.operands])
   rw[hx]at q1;rw[hy]at q2
   obtain⟨u,hu,hv⟩:=hr s fr c w _ _ q1 q2
   refine⟨u,?_,hv⟩
   simp only[execOp,ho]
   rw[Sem.run_bind,hu x y];rfl
  ·rw[<-ho]at h
   exact plain (by rw[ho];rfl) h
 ·rename_i op n1 n2 n9 n3 n4 n5 n6 n7 n8
  refine plain ?_ h
  unfold sg
  split
  ·rename_i rQ;rw[rQ];rfl
  ·rename_i rQ;exact(n2 _ _ _ rQ).elim
  ·rename_i rQ;exact(n9 _ _ _ rQ).elim
  ·rename_i rQ;exact(n3 _ _ rQ).elim
  ·rename_i rQ;exact(n4 _ _ rQ).elim
  ·rename_i m1 m2 m5 m3 m4
   cases rQ:o.op<;>first|rfl|exact(m1 _ _ _ rQ).elim
theorem SJ{st:St}{g:Nat}{b:Bool}(h:look st.env g=.bool b)(t:Nat):look (st.kG (.tmp g) b).env t=look st.env t:=by
 simp only[St.kG,Bl]
 split
 ·rename_i e;subst e;exact h.symm
 ·rfl
theorem Zof{env mn:List (Nat×D)}(h:∀t,look mn t=look env t):bq mn=bq env:=by
 funext x;cases x<;>first|exact h _|rfl
theorem Wa{P:Program}{T:fq}(hT:jz P T){G:List bc}(hG:jT P G){N M:Nat}{ops:Array Oper}{o:Oper}{l:List Oper}{st:St}{K:St->Prop}(h:mb T G N M ops (o::l) st K):
 ∃ks val R' iL,(∀t,look iL t=look (se ks st.env) t)/\(∀t,o.dst=some t->t<N)/\nA P G M ops o st.env st.rows ks val R'/\mb T G N M ops l ⟨sf iL o.dst val,R'⟩ K:=by
 simp only[mb]at h
 split at h
 ·rename_i hg
  obtain⟨ks,val,R',iL,h0,h1,h2,h3⟩:=Zme hT hG h
  exact⟨ks,val,R',iL,h0,h1,by unfold nA;rw[hg];exact h3,h2⟩
 ·rename_i j want hg
  split at h
  ·rename_i g hd
   split at h
   ·rename_i b hb
    have yes:∀b',b'=b->lS T G N M o (st.kG (.tmp g) b') (λst=>mb T G N M ops l st K)->b=want->∃ks val R' iL,(∀t,look iL t=look (se ks st.env) t)/\(∀t,o.dst=some t->t<N)/\nA P G M ops o st.env st.rows ks val R'/\mb T G N M ops l ⟨sf iL o.dst val,R'⟩ K:=by
     intro b' e hh hw
     subst e
     obtain⟨ks,val,R',iL,h0,h1,h2,h3⟩:=Zme hT hG hh
     rw[Zof (SJ hb)]at h3
     refine⟨ks,val,R',iL,λt=>by rw[h0,BV,BV,SJ hb],h1,?_,h2⟩
     unfold nA;rw[hg]
     exact⟨g,hd,.inl ⟨_,hb,by rw[if_pos hw];exact h3⟩⟩
    have no:∀b',b'=b->(st.kG (.tmp g) b').put N o.dst (.dt []) st.rows (λst=>mb T G N M ops l st K)->b≠want->∃ks val R' iL,(∀t,look iL t=look (se ks st.env) t)/\(∀t,o.dst=some t->t<N)/\nA P G M ops o st.env st.rows ks val R'/\mb T G N M ops l ⟨sf iL o.dst val,R'⟩ K:=by
     intro b' e hh hw
     subst e
     obtain⟨h1,h2⟩:=pb hh
     refine⟨[],_,_,_,λt=>by rw[o4,SJ hb],h1,?_,h2⟩
     unfold nA;rw[hg]
     exact⟨g,hd,.inl ⟨_,hb,by rw[if_neg hw];exact⟨rfl,rfl,rfl⟩⟩⟩
    cases b<;>cases want<;>simp only[DJ]at h
    ·exact yes _ rfl h rfl
    ·exact no _ rfl h (by simp)
    ·exact no _ rfl h (by simp)
    ·exact yes _ rfl h rfl
   ·rename_i hb
    obtain⟨h1,h2⟩:=pb h
    refine⟨[],_,_,st.env,λt=>o4.symm,h1,?_,h2⟩
    unfold nA;rw[hg]
    exact⟨g,hd,.inr ⟨hb,rfl,rfl,rfl⟩⟩
   ·exact h.elim
  ·exact h.elim
theorem Sz{ops:Array Oper}{o:Oper}{c:Ctx}{w:World}{a:Act}{j g:Nat}{want:Bool}(hg:o.guard=some (j,want))(hd:(ops[j]?).bind (·.dst)=some g)(h:Rep c w (.dt []) (a.tmps.getD g undef)):
 Region.wanted o (yielded ops a.tmps)=false:=by
 obtain⟨vs,hv,BX⟩:=h
 have hy:yielded ops a.tmps j=none:=by
  simp only[yielded,hd,aL]
  cases hx:a.tmps[g]? with
  |none=>rfl
  |some v=>
   have:a.tmps.getD g undef=v:=by simp[hx]
   rw[this]at hv
   rw[hv]
 unfold Region.wanted
 rw[hg]
 simp only[hy]
 rfl
theorem Sy(c:Ctx)(w:World):Rep c w (.dt []) undef:=⟨[],rfl,trivial⟩
theorem SA{ops:Array Oper}{o:Oper}{c:Ctx}{w:World}{a:Act}{j g:Nat}{want b:Bool}(hg:o.guard=some (j,want))(hd:(ops[j]?).bind (·.dst)=some g)(h:Rep c w (.bool b) (a.tmps.getD g undef)):
 Region.wanted o (yielded ops a.tmps)=decide (b=want):=by
 have hv:=Rep.bool.1 h
 have ht:a.tmps[g]?=some (.bool b):=by
  cases hx:a.tmps[g]? with
  |none=>simp[hx,undef]at hv
  |some v=>simp[hx]at hv;rw[hv]
 unfold Region.wanted
 simp only[hg,yielded,hd,aL,ht]
 cases b<;>cases want<;>rfl
def wpOp(P:Program)(ops:Array Oper)(Q:Exit->Act->World->Prop)(i:Nat)(K:Act->World->Prop)(a:Act)(w:World):Prop:=
 match ops[i]? with
 |none=>K a w
 |some o=>if Region.wanted o (yielded ops a.tmps)then o.nm P a w K Q else K (a.put o.dst undef) w
def KG(P:Program)(ops:Array Oper)(Q:Exit->Act->World->Prop):List Nat->Act->World->Prop
 |[],a,w=>Q .normal a w
 |i::rest,a,w=>wpOp P ops Q i (KG P ops Q rest) a w
theorem Z80{P:Program}{ops:Array Oper}{Q:Exit->Act->World->Prop}(i:Nat)(rest:List Nat)(a:Act)(w:World):KG P ops Q (i::rest) a w=wpOp P ops Q i (KG P ops Q rest) a w:=rfl
def Ii(P:Program)(md:Region.Mode)(ops:Array Oper)(Q:Exit->Act->World->Prop):Nat->Array Bool->Act->World->Prop
 |0,listed,a,w=>Region.ready md ops listed=[]/\Q .normal a w
 |fuel+1,listed,a,w=>
  (Region.ready md ops listed=[]->Q .normal a w)/\
  ∀i∈Region.ready md ops listed,wpOp P ops Q i (Ii P md ops Q fuel (listed.setIfInBounds i true)) a w
abbrev Bo(ro:Option Nat):Fence:={Fence.wide with round:=ro}
theorem qW{P:Program}{ro:Option Nat}{o:Oper}{a:Act}{w:World}{K:Act->World->Prop}{Q Q':Exit->Act->World->Prop}(h:o.nm P a w K Q):o.wpIn (Bo ro) 0 P a w K Q':=by
 refine⟨λ_ _=>trivial,?_⟩
 have hd:∀c,o.op≠.defer c:=by
  intro c hc
  unfold Oper.nm at h
  simp only[execOp,hc,Sem.run_bind]at h
  revert h
  cases(resolve a.eval c o.type).run P w with
  |halt _ _=>exactλh=>h
  |ok d w'=>exactλh=>h
 rw[Oper.semAt_eq _ _ _ hd]
 unfold Oper.nm at h
 revert h
 generalize(execOp a.eval o).run P w=r
 intro h
 cases r with
 |halt _ _=>exact h.elim
 |ok n w'=>
  cases n with
  |value v=>exact h
  |skip=>exact h
  |enter f args=>
   refine⟨λe=>(by cases e),?_⟩
   refine CallsIn.mono (F:=Fence.wide) (callsIn_wide.2 h) λe w' ⟨v,he,hk⟩=>?_
   subst he;exact hk
  |round l f tmps assign body=>
   refine⟨λe=>(by cases e),?_⟩
   refine RoundIn.mono (F:=Fence.wide) h λe w' ⟨v,he,hk⟩=>?_
   subst he;exact hk
  |_=>exact h.elim
theorem SK{P:Program}{ro:Option Nat}{ops:Array Oper}{Q:Exit->Act->World->Prop}:∀{l:List Nat} {a:Act} {w:World},KG P ops Q l a w->wpOpsIn (Bo ro) 0 P ops Q l a w
 |[],_,_,h=>h
 |i ::l,a,w,h=>by
  rw[Z80]at h
  unfold wpOp at h
  unfold wpOpsIn
  split
  ·rename_i ho;simp only[ho]at h;exact SK h
  ·rename_i o ho
   simp only[ho]at h
   split
   ·rename_i hw;rw[if_pos hw]at h;exact qW (Q:=Q) (WA (Q':=Q) (λa w h=>SK h) h)
   ·rename_i hw;rw[if_neg hw]at h;exact⟨λ_ _=>trivial,SK h⟩
theorem SL{P:Program}{ro:Option Nat}{md:Region.Mode}{ops:Array Oper}{Q:Exit->Act->World->Prop}:∀{n:Nat} {listed:Array Bool} {a:Act} {w:World},Ii P md ops Q n listed a w->wpAnyIn (Bo ro) 0 P md ops Q n listed a w
 |0,_,_,_,h=>h
 |n +1,listed,a,w,h=>by
  refine⟨h.1,λi hi=>?_⟩
  have h:=h.2 i hi
  unfold wpOp at h
  unfold wpOpIn
  split
  ·rename_i ho;simp only[ho]at h;exact SL h
  ·rename_i o ho
   simp only[ho]at h
   split
   ·rename_i hw;rw[if_pos hw]at h;exact qW (Q:=Q) (WA (Q':=Q) (λa w h=>SL h) h)
   ·rename_i hw;rw[if_neg hw]at h;exact⟨λ_ _=>trivial,SL h⟩
theorem Zi6{P:Program}{ro:Option Nat}{id:Nat}{ops:Array Oper}{Q:Exit->Act->World->Prop}{a:Act}{w:World}(h:KG P ops Q (List.range ops.size) a w):(Code.region id ops false).wpIn (Bo ro) 0 P Q a w:=wpIn_region (SK h)
theorem Qvc{P:Program}{ro:Option Nat}{ops:Array Oper}{Q:Exit->Act->World->Prop}{id:Nat}{a:Act}{w:World}(hm:P.follows .mixedOrders=true)
 (h:Ii P .any ops Q ops.size (Array.replicate ops.size false) a {w with drawn:=w.drawn+1}):(Code.region id ops true).wpIn (Bo ro) 0 P Q a w:=wpIn_region_any hm (SL h)
theorem xW{P:Program}{G:List bc}{ops:Array Oper}{N M:Nat}{c0:Ctx}{w0:World}{c:Ctx}{w:World}{st:St}{a:Act}{i:Nat}{o:Oper}{ks:List Nat}{val:D}{R':Rows}{iL:List (Nat×D)}(hi:ops[i]?=some o)
 (hs:fw N M c0 w0 c w st a) (h1:∀t,look iL t=look (se ks st.env) t) (hd:∀t,o.dst=some t->t<N) (hG:nA P G M ops o st.env st.rows ks val R') {K:Act->World->Prop} {Q:Exit->Act->World->Prop}
 (hK:∀a' w' c',fw N M c0 w0 c' w' ⟨sf iL o.dst val,R'⟩ a'->K a' w'):wpOp P ops Q i K a w:=by
 have fin:(∀k,bw k ks=true->M<=k)->∀(v:Value) (w':World) (c':Ctx),jF ks c w c' w'->(∀r,c'.R r=R'.getD r none)->Rep c' w' val v->K (a.put o.dst v) w':=λhM v w' c' hn hR hv=>by
  refine hK _ _ c' ⟨hn.mem,hR,?_,?_,?_,hs.gh,hs.gw,hs.reach.step hM hs.gw hn⟩
  ·exact Z9 hs.size hd (λt=>by rw[h1,BV];exact Ak hn.bz (WB (hs.env t))) hv
  ·cases ho:o.dst<;>simp[Act.put]<;>exact hs.size
  ·exact mc.put (hs.defers.step hs.mem hn.fr)
 have run:pI P G M o (bq st.env) st.rows ks val R'->o.nm P a w K Q:=λhX=>hX.toK.2 c w a hs.mem hs.base hs.rows (λx _=>Nn hs.env x) K Q (fin hX.toK.1)
 have skip:ks=[]->val=.dt []->R'=st.rows->K (a.put o.dst undef) w:=λe0 e1 e2=>by
  refine hK _ _ c ⟨hs.mem,by rw[e2];exact hs.rows,?_,?_,?_,hs.gh,hs.gw,hs.reach⟩
  ·exact Z9 hs.size hd (λt=>by rw[h1,e0,o4];exact hs.env t) (by rw[e1];exact Sy _ _)
  ·cases ho:o.dst<;>simp[Act.put]<;>exact hs.size
  ·exact mc.put hs.defers
 unfold wpOp
 simp only[hi]
 unfold nA at hG
 cases hg:o.guard with
 |none=>
  simp only[hg]at hG
  have hw:Region.wanted o (yielded ops a.tmps)=true:=by simp[Region.wanted,hg]
  rw[if_pos hw]
  exact run hG
 |some jw=>
  obtain⟨j,want⟩:=jw
  simp only[hg]at hG
  obtain⟨g,h2,⟨b,h3,h4⟩|⟨h3,e0,e1,e2⟩⟩:=hG
  rotate_left
  ·have hr:=hs.env g
   rw[h3]at hr
   rw[if_neg (by rw[Sz (o:=o) hg h2 hr];simp)]
   exact skip e0 e1 e2
  have hr:=hs.env g
  rw[h3]at hr
  have hw:=SA (o:=o) hg h2 hr
  by_cases e:b=want
  ·rw[if_pos e]at h4
   rw[if_pos (by rw[hw];simpa using e)]
   exact run h4
  ·rw[if_neg e]at h4
   rw[if_neg (by rw[hw];simpa using e)]
   exact skip h4.1 h4.2.1 h4.2.2
theorem zW{P:Program}{T:fq}(hT:jz P T){G:List bc}(hG:jT P G){N M:Nat}{ops:Array Oper}{c0:Ctx}{w0:World}{K:St->Prop}{Q:Exit->Act->World->Prop}(hQ:∀st c w a,K st->fw N M c0 w0 c w st a->Q .normal a w):
 ∀(l:List Oper) (k:Nat) (st:St) (c:Ctx) (w:World) (a:Act),ops.toList.drop k=l->mb T G N M ops l st K->fw N M c0 w0 c w st a->KG P ops Q (bK k l.length) a w
 |[],k,st,c,w,a,_,h,hs=>hQ st c w a h hs
 |o ::l,k,st,c,w,a,hk,h,hs=>by
  have cg:k<ops.toList.length:=by
   by_cases cg:k<ops.toList.length
   ·exact cg
   ·rw[List.drop_eq_nil_of_le (by omega)]at hk;cases hk
  rw[List.drop_eq_getElem_cons cg]at hk
  have ho:ops[k]?=some o:=by
   have:=(List.cons.inj hk).1
   rw[<-this]
   simp at cg
   simp[cg]
  obtain⟨ks,val,R',iL,h1,h2,h3,h4⟩:=Wa hT hG h
  simp only[List.length_cons,List.range'_succ]
  rw[Z80]
  exact xW ho hs h1 h2 h3 λa' w' c' ji=>zW hT hG hQ l (k+1) _ c' w' a' (List.cons.inj hk).2 h4 ji
def mW:Exit->Option Ex
 |.normal=>some .normal
 |.exit i=>some (.exit i)
 |.ret=>some .ret
 |_=>none
def tU(ro:Option Nat)(P:Program)(N M:Nat)(code:Code)(st:St)(Q:Ex->St->Prop):Prop:=
 ∀ (c0:Ctx) (w0:World) (c:Ctx) (w:World) (a:Act),fw N M c0 w0 c w st a->
  code.wpIn (Bo ro) 0 P (λe a' w'=>∃ex ju c',mW e=some ex/\Q ex ju/\fw N M c0 w0 c' w' ju a') a w
abbrev Tr:=tU none
def Ctx.pf(c:Ctx)(R:Rows)(ks:List Nat):Ctx:=
 {c with R:=λr=>if bw r ks=true then none else(c.R r).map (Row.mo R ks),I:=λb=>c.I b\/∃r row,bw r ks=true/\c.R r=some row/\¬c.V r/\c.ρ r=b}
section
variable {c:Ctx} {w:World} {R:Rows} {ks:List Nat}
theorem Zet(R:Rows)(ks:List Nat)(row:Row):(row.mo R ks).box=row.box/\(row.mo R ks).ty=row.ty/\(row.mo R ks).sz=row.sz/\(row.mo R ks).es.l.length=row.es.l.length:=by
 unfold Row.mo;split<;>exact⟨rfl,rfl,rfl,rfl⟩
theorem Z2w:∀{e:List D},(D.sB R ks e).length=e.length
 |[]=>rfl
 |d::l=>by simp[D.sB,Z2w (e:=l)]
theorem Zhf:jk (c.kill ks) w (c.pf R ks) w:=by
 refine⟨rfl,aO _,λb h=>⟨.inl h,rfl⟩,λr x hx=>?_⟩
 obtain⟨h1,row,h2,rfl⟩:=oh hx
 obtain⟨s1,s2,s3,s4⟩:=Zet R ks row
 obtain⟨k1,k2,k3,k4⟩:=wq ks row
 refine⟨row.mo R ks,?_,s1.trans k1.symm,s2.trans k2.symm,s3.trans k3.symm,s4.trans k4.symm,rfl,Iff.rfl,λ_ arr h=>⟨arr,h,rfl⟩⟩
 show(if bw r ks=true then none else(c.R r).map (Row.mo R ks))=_
 rw[h1,h2];rfl
theorem Qzd:∀{ds:List D} {arr:Array Value} {off:Nat},ds.all D.plain=true->kK c w ds arr off->nQ c.I w ds arr off
 |[],_,_,_,_=>BP.2 trivial
 |d::ds,arr,off,hp,⟨⟨v,hv,h1⟩,h2⟩=>by
  rw[List.all_cons,aE]at hp
  exact Aq.2 ⟨⟨v,hv,cv.plain hp.1 h1⟩,Qzd hp.2 h2⟩
variable (hm:Mem c w) (hA:∀r,c.R r=R.getD r none)
include hm hA
theorem WC{d:D}{v:Value}(h:cv c w d v):cv (c.pf R ks) w (d.BY R ks) v:=by
 have Ir:∀{d:D},cv c w d v->cv (c.pf R ks) w (d.ej ks) v:=λh=>Nr Zhf (SM h)
 cases d with
 |all r=>
  simp only[D.BY]
  cases hb:bw r ks with
  |false=>
   have:=Ir h
   simpa only[D.ej,hb]using this
  |true=>
   obtain⟨row,g1,g2,hv⟩:=h
   have hr:R.getD r none=some row:=by rw[<-hA r];exact g1
   obtain⟨box,ty,sz,es⟩:=row
   simp only at g2
   subst g2
   simp only[hr]
   rcases hv with⟨hV,a,hv,_⟩|⟨hV,cap,arr,hv,g3,g4,g5,g6⟩
   ·have he:=(hm.oe g1 hV).2.1
    simp only at he
    exact⟨a,0,by rw[he];exact hv,by rw[he];exact aO _,.inl he⟩
   ·obtain⟨iO,jC,hs,hx⟩:=hm.real g1 hV
    simp only at g5 jC hx
    rw[g5]at jC;cases jC
    simp only[aN,if_false]at hx
    exact⟨_,cap,hv,g3,.inr ⟨_,0,arr,_,_,rfl,.inr ⟨r,_,hb,g1,hV,rfl⟩,by simp,g5,od (λb hb=>⟨.inl hb,rfl⟩) _ _ _ _ hx⟩⟩
 |ptr r i off=>
  simp only[D.BY]
  cases hb:bw r ks with
  |false=>
   have:=Ir h
   simpa only[D.ej,hb]using this
  |true=>
   obtain⟨row,g1,g2,g3,hv⟩:=h
   have hr:R.getD r none=some row:=by rw[<-hA r];exact g1
   simp only
   split
   ·rename_i ty sz e he
    rw[he]at hr;cases hr
    split
    ·rename_i hp
     obtain⟨arr,ha,hs,hx⟩:=hm.real g1 g2
     simp only[if_true]at hx
     obtain⟨e',k1,k2,k3,k4⟩:=hx
     have k1:[e]=[e']:=by injection k1
     have k1:e=e':=(List.cons.inj k1).1
     subst k1
     refine⟨c.ρ r,0,arr,ty,(0,0),?_,.inr ⟨r,_,hb,g1,g2,rfl⟩,g3,ha,oi.2 ⟨k2,Zjj (λb hb=>⟨.inl hb,rfl⟩) _ _ _ (Qzd hp k4),pN.2 trivial⟩⟩
     rw[hv];simp
    ·rw[hv];rfl
   ·rw[hv];rfl
 |_=>exact Ir h
theorem Znh:∀{ds:List D} {vs:List Value},jm c w ds vs->jm (c.pf R ks) w (D.sB R ks ds) vs
 |[],[],_=>trivial
 |_::_,_::_,h=>⟨WC hm hA h.1,Znh h.2⟩
 |[],_::_,h=>h.elim
 |_::_,[],h=>h.elim
theorem Zo2{d:D}{v:Value}(h:VRep c w d v):VRep (c.pf R ks) w (d.Is R ks) v:=by
 cases d with
 |agg cs=>obtain⟨vs,hv,hr⟩:=h;exact⟨vs,hv,Znh hm hA hr⟩
 |_=>
  have:=WC (ks:=ks) hm hA (VRep.toC (λcs e=>by cases e) h)
  exact VRep.EK this
theorem Zmh:∀{ds:List D} {vs:List Value},j8 c w ds vs->j8 (c.pf R ks) w (D.It R ks ds) vs
 |[],[],_=>trivial
 |_::_,_::_,h=>⟨Zo2 hm hA h.1,Zmh h.2⟩
 |[],_::_,h=>h.elim
 |_::_,[],h=>h.elim
theorem yG{d:D}{v:Value}(h:Rep c w d v):Rep (c.pf R ks) w (d.BZ R ks) v:=by
 cases d with
 |dt ds=>obtain⟨vs,hv,hr⟩:=h;exact⟨vs,hv,Zmh hm hA hr⟩
 |dead=>trivial
 |_=>
  have:=Zo2 (ks:=ks) hm hA (Rep.toV (λds e=>by cases e) (λe=>by cases e) h)
  exact Rep.KE this
theorem Zg:∀{ds:List D} {arr:Array Value} {off:Nat},kK c w ds arr off->kK (c.pf R ks) w (D.sB R ks ds) arr off
 |[],_,_,_=>trivial
 |_::_,_,_,⟨⟨v,hv,h1⟩,h2⟩=>⟨⟨v,hv,WC hm hA h1⟩,Zg h2⟩
theorem zae{r:Nat}{row:Row}(h:EM c w r row):EM (c.pf R ks) w r (row.mo R ks):=by
 obtain⟨s1,s2,s3,s4⟩:=Zet R ks row
 rcases h with⟨h0,h1,h2,h3⟩|⟨h0,arr,ha,hs,hx⟩
 ·refine .inl ⟨h0,s1.trans h1,?_,by rw[s3];exact h3⟩
  rw[h2]at s4;exact List.eq_nil_of_length_eq_zero s4
 ·refine .inr ⟨h0,arr,by rw[s2];exact ha,by rw[s3];exact hs,?_⟩
  rw[s1,s3]
  split
  ·rename_i hb
   simp only[hb,if_true]at hx
   obtain⟨e,k1,k2,k3,k4⟩:=hx
   obtain⟨box,ty,sz,es⟩:=row
   simp only at hb k1 k2 k3 k4
   subst hb;subst k1
   exact⟨D.sB R ks e,rfl,by rw[Z2w];exact k2,k3,Zg hm hA k4⟩
  ·rename_i hb
   simp only[hb,aN,if_false]at hx
   have he:(row.mo R ks).es=row.es:=by
    unfold Row.mo
    split
    ·simp at hb
    ·rfl
   rw[he];exact od (λb hb=>⟨.inl hb,rfl⟩) _ _ _ _ hx
omit hm hA in
theorem KH{r:Nat}{x:Row}(h:(c.pf R ks).R r=some x):bw r ks=false/\∃row,c.R r=some row/\x=row.mo R ks:=by
 simp only[Ctx.pf]at h
 cases hb:bw r ks with
 |true=>rw[hb]at h;simp at h
 |false=>
  rw[hb]at h
  simp only[aN,if_false,Option.map_eq_some_iff]at h
  obtain⟨row,h1,h2⟩:=h
  exact⟨rfl,row,h1,h2.symm⟩
theorem xae:Mem (c.pf R ks) w:=by
 refine⟨λr x hx=>?_,λr s x y hx hy v1 v2 he=>?_,λb hb=>?_,hm.top,hm.kN.mono λb hb=>⟨.inl hb,rfl⟩⟩
 ·obtain⟨_,row,h1,rfl⟩:=KH hx
  exact zae hm hA (hm.row r row h1)
 ·obtain⟨_,row,h1,_⟩:=KH hx
  obtain⟨_,ak,h2,_⟩:=KH hy
  exact hm.inj r s row ak h1 h2 v1 v2 he
 ·rcases hb with hb|⟨s,row,h1,h2,h3,rfl⟩
  ·refine⟨(hm.fu b hb).1,λr x hx v=>?_⟩
   obtain⟨_,row,h1,_⟩:=KH hx
   exact(hm.fu b hb).2 r row h1 v
  ·refine⟨hm.lt h2 h3,λr x hx v e=>?_⟩
   obtain⟨h4,ak,h5,_⟩:=KH hx
   have:=hm.inj r s ak row h5 h2 v h3 e
   rw[this,h1]at h4;cases h4
end
theorem Z9x{R0:Rows}{ks:List Nat}:∀{R:Rows} {i r:Nat},(KI R0 ks R i).getD r none=if bw (i+r) ks=true then none else(R.getD r none).map (Row.mo R0 ks)
 |[],i,r=>by simp[KI]
 |x::l,i,0=>by
  simp only[KI,bG]
  cases bw i ks<;>cases x<;>simp
 |x::l,i,r+1=>by
  have:=Z9x (R0:=R0) (ks:=ks) (R:=l) (i:=i+1) (r:=r)
  rw[show i+1+r=i+(r+1) by omega]at this
  simpa[KI]using this
def uj(R:Rows)(ks:List Nat)(env:List (Nat×D)):List (Nat×D):=env.map λx=>(x.1,x.2.BZ R ks)
theorem Zne{R:Rows}{ks:List Nat}:∀{env:List (Nat×D)} {K:List (Nat×D)->Prop},EN R ks env K↔K (uj R ks env)
 |[],_=>Iff.rfl
 |(t,d)::l,K=>by
  simp only[EN,D.cq]
  rw[Zne (env:=l) (K:=λl=>K ((t,d.BZ R ks)::l))]
  rfl
theorem Zlv{R:Rows}{ks:List Nat}:∀{env:List (Nat×D)} {t:Nat},look (uj R ks env) t=(look env t).BZ R ks
 |[],_=>rfl
 |(u,d)::l,t=>by
  simp only[uj,List.map_cons,look]
  split
  ·rfl
  ·exact Zlv (env:=l)
theorem WD{M:Nat}{R:Rows}:∀{l:List Nat} {r:Nat},r∈uk M R l->M<=r
 |x ::l,r,h=>by
  simp only[uk]at h
  split at h
  ·rename_i hb
   rcases List.mem_cons.1 h with e|h
   ·rw[e];rw[aE]at hb;exact lE hb.1
   ·exact WD h
  ·exact WD h
theorem qaf{N M:Nat}{c0:Ctx}{w0:World}{c:Ctx}{w:World}{st:St}{a:Act}{T:fq}{G:List bc}{ops:Array Oper}{K:St->Prop}(h:Iu T G M ops st K)(hs:fw N M c0 w0 c w st a):∃ju c',K ju/\fw N M c0 w0 c' w ju a:=by
 unfold Iu at h
 split at h
 ·exact⟨st,c,h,hs⟩
 ·rename_i ks hk
  have hM:∀k,bw k (uk M st.rows (SN T G st.env st.rows [] [] ops.toList))=true->M<=k:=λk hk=>WD (oj.1 hk)
  generalize uk M st.rows (SN T G st.env st.rows [] [] ops.toList)=ks at*
  rw[Zne,nn]at h
  have hm:=xae (ks:=ks) hs.mem hs.rows
  refine⟨_,c.pf st.rows ks,h,hm,λr=>?_,λt=>?_,hs.size,hs.defers,hs.gh,hs.gw,hs.reach.step (ks:=ks) hM hs.gw ⟨hm,Zhf,Fr.refl _ w,λb hb=>?_,λr ak hr hv=>?_⟩⟩
  ·rw[Z9x,aX,<-hs.rows r];rfl
  ·rw[Zlv];exact yG hs.mem hs.rows (hs.env t)
  ·rcases hb with hb|hb
   ·exact .inl hb
   ·exact .inr (.inl hb)
  ·obtain⟨_,row,h1,_⟩:=KH hr
   exact .inl ⟨⟨row,h1⟩,hv,rfl⟩
theorem vb{c:Ctx}{w:World}(hm:Mem c w){r:Nat}{ty:TypeId}{sz:Nat}{e e':List D}(hr:c.R r=some ⟨true,ty,sz,.gen [e]⟩)(hl:e'.length=e.length)(hc:∀arr,kK c w e arr 0->kK c w e' arr 0):jk c w (c.jB r ⟨true,ty,sz,.gen [e']⟩) w/\Mem (c.jB r ⟨true,ty,sz,.gen [e']⟩) w:=by
 have hg:jk c w (c.jB r ⟨true,ty,sz,.gen [e']⟩) w:=by
  refine⟨rfl,aO _,λb hb=>⟨hb,rfl⟩,λs x hs=>?_⟩
  by_cases e:s=r
  ·subst e
   rw[hr]at hs;cases hs
   exact⟨⟨true,ty,sz,.gen [e']⟩,by simp[Ctx.jB],rfl,rfl,rfl,rfl,rfl,Iff.rfl,λ_ a ha=>⟨a,ha,rfl⟩⟩
  ·exact⟨x,by simp[Ctx.jB,e,hs],rfl,rfl,rfl,rfl,rfl,Iff.rfl,λ_ a ha=>⟨a,ha,rfl⟩⟩
 have jA:∀s x,(c.jB r ⟨true,ty,sz,.gen [e']⟩).R s=some x->∃x',c.R s=some x':=λs x hs=>by
  by_cases e:s=r
  ·exact⟨_,by rw[e];exact hr⟩
  ·exact⟨x,by simpa[Ctx.jB,e]using hs⟩
 refine⟨hg,λs x hs=>?_,λs q x y hs hq v1 v2 he=>?_,λb iI=>⟨(hm.fu b iI).1,λs x hs hv=>?_⟩,hm.top,hm.kN⟩
 ·by_cases es:s=r
  ·subst es
   simp only[Ctx.jB,if_true,Option.some.injEq]at hs
   subst hs
   rcases hm.row _ _ hr with⟨g0,g1,g2,g3⟩|⟨g0,arr,g1,g2,g3⟩
   ·cases g1
   ·refine .inr ⟨g0,arr,g1,g2,?_⟩
    simp only[if_true]at g3⊢
    obtain⟨e0,q1,q2,q3,q4⟩:=g3
    cases q1
    exact⟨e',rfl,hl.trans q2,q3,Ns hg (hc arr q4)⟩
  ·have ji:c.R s=some x:=by simpa[Ctx.jB,es]using hs
   exact tX hg rfl Iff.rfl (λ_=>rfl) (hm.row s x ji)
 ·obtain⟨x',jE⟩:=jA s x hs
  obtain⟨y',Ao⟩:=jA q y hq
  exact hm.inj s q x' y' jE Ao v1 v2 he
 ·obtain⟨x',jE⟩:=jA s x hs
  exact(hm.fu b iI).2 s x' jE hv
theorem qc{T:fq}{R:Rows}{i:Nat}{ty:TypeId}{sz:Nat}{e:TypeId}{n:Nat}(h:um T R i=some (ty,sz,e,n)):0<n/\∃d,R.getD i none=some ⟨true,ty,sz,.gen [[d]]⟩/\(d=.du\/d=.emp):=by
 unfold um at h
 split at h
 ·rename_i jU kB d hr
  have go:∀{x:Option (TypeId×Nat×TypeId×Nat)},x=some (ty,sz,e,n)->(x=match T.get jU with|some ⟨.slice e n,_,_,_,_,_⟩=>(match bJ 0 n with|true=>some (jU,kB,e,n)|false=>none)|_=>none)->0<n/\jU=ty/\kB=sz:=by
   intro x hx hy
   rw[hx]at hy
   split at hy
   ·split at hy
    ·rename_i hb;cases hy;exact⟨lE hb,rfl,rfl⟩
    ·cases hy
   ·cases hy
  split at h
  ·obtain⟨h1,rfl,rfl⟩:=go h rfl
   exact⟨h1,_,hr,.inl rfl⟩
  ·obtain⟨h1,rfl,rfl⟩:=go h rfl
   exact⟨h1,_,hr,.inr rfl⟩
  ·cases h
 ·cases h
theorem Gj{N M:Nat}{c0:Ctx}{w0:World}{w:World}{a:Act}{T:fq}{env:List (Nat×D)}{K:Rows->Prop}:∀{l:List iv} {R:Rows} {c:Ctx},Iv T l env R K->fw N M c0 w0 c w ⟨env,R⟩ a->∃R' c',K R'/\fw N M c0 w0 c' w ⟨env,R'⟩ a
 |[],R,c,h,hs=>⟨R,c,h,hs⟩
 |.int _ _::l,R,c,h,hs=>Gj (l:=l) h hs
 |.arr _::l,R,c,h,hs=>Gj (l:=l) h hs
 |.sl _ _ _::l,R,c,h,hs=>Gj (l:=l) h hs
 |.fn _ _::l,R,c,h,hs=>Gj (l:=l) h hs
 |.ptr i _ _::l,R,c,h,hs=>by
  simp only[Iv]at h
  split at h
  rotate_left
  ·exact Gj (l:=l) h hs
  rename_i ty sz u n hr
  obtain⟨h0,d,h2,hd⟩:=qc hr
  simp only[nn,Nt]at h
  have cg:i<R.length:=by
   by_cases cg:i<R.length
   ·exact cg
   ·rw[aK,aM (by omega)]at h2;cases h2
  rw[List.set_append_left _ _ cg]at h
  have hi:c.R i=some ⟨true,ty,sz,.gen [[d]]⟩:=by rw[hs.rows];exact h2
  have hn:c.R R.length=none:=by rw[hs.rows,aK,aM (aO _)];rfl
  have gl:i≠R.length:=by omega
  have Iw:=WE hs.mem hn (row:=⟨false,u,n,.gen []⟩) rfl rfl h0
  have WG:=SO (w:=w) hn ⟨false,u,n,.gen []⟩
  have WH:(c.jr R.length ⟨false,u,n,.gen []⟩).R i=some ⟨true,ty,sz,.gen [[d]]⟩:=by simp[Ctx.jr,gl,hi]
  obtain⟨WI,Ca⟩:=vb (e':=[.all R.length]) Iw WH rfl (λarr hc=>by
   obtain⟨⟨v,hv,h1⟩,_⟩:=hc
   refine⟨⟨v,hv,⟨false,u,n,.gen []⟩,by simp[Ctx.jr],rfl,.inl ⟨.inl rfl,?_⟩⟩,trivial⟩
   rcases hd with rfl|rfl
   ·exact⟨none,h1,Nu⟩
   ·exact h1)
  have hg:=WG.trans WI
  have nF:lP c w ((c.jr R.length ⟨false,u,n,.gen []⟩).jB i ⟨true,ty,sz,.gen [[.all R.length]]⟩) w:=by
   refine⟨Ca,hg,Fr.refl _ w,λb hb=>.inl hb,λr ak hr hv=>.inl ?_⟩
   have Ar:r≠R.length:=λe=>hv (.inl e)
   by_cases er:r=i
   ·subst er;exact⟨⟨_,hi⟩,λe=>hv (.inr e),rfl⟩
   ·exact⟨⟨ak,by simpa[Ctx.jB,Ctx.jr,er,Ar]using hr⟩,λe=>hv (.inr e),rfl⟩
  refine Gj (l:=l) h ⟨Ca,λr=>?_,λt=>Ak hg (hs.env t),hs.size,hs.defers,hs.gh,hs.gw,hs.reach.step (ks:=[]) (λk hk=>by simp[bw]at hk) hs.gw nF.toK⟩
  simp only[Ctx.jB,Ctx.jr]
  by_cases er:r=i
  ·subst er
   simp[aK,aZ (show r<(R.set r _).length by simpa using cg),cg]
  ·rw [if_neg er]
   by_cases en:r=R.length
   ·subst en
    simp[aK]
   ·rw[if_neg en,hs.rows]
    by_cases hl:r<R.length
    ·simp[aK,aZ (show r<(R.set i _).length by simpa using hl),List.getElem?_set_ne (Ne.symm er)]
    ·have h1:R.getD r none=none:=by rw[aK,aM (by omega)];rfl
     rw[h1,aK,aM (by simp;omega)];rfl
