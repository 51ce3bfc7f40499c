import Derived.Test.YthjfindbamdacaaGreatDoorAuditComparesFk
import Derived.Laws.IdiomStrings
import Derived.Laws.BytesArg
import Derived.Laws.Cover3
import Derived.RangeFuncRecord
import Derived.OrdersIn
import Derived.LoopNIn
open List renaming getD->aK,getElem?_take->aU,getElem?_toArray->aY,getElem?_append_left->aZ,size_toArray->bA,getElem?_append_right->bB,length_take->bD,length_drop->bF,getElem?_eq_none->aM,range'->bK,map_append->bL,map_congr_left->bM,ext_getElem->bN,getElem_map->bO,getElem_range'->bP,map_toArray->bR
open Nat renaming mul_le_mul_right->aV,succ_mul->aW,zero_add->aX,add_mul->bC,le_refl->aO,add_zero->bG,le_trans->bH,lt_of_lt_of_le->bI,blt->bJ
open Bool renaming or_eq_true->aI,false_eq_true->aN
open Array renaming getD->aP,empty_append->bQ,toArray_toList->bS
open Option renaming bind_some->aL
set_option linter.all false
namespace Go.GD
open Go
theorem Zeb{P:Program}(w:World){t tx ty e:TypeId}{i:TypeInfo}(ht:P.underlying t=some (.slice e))(hi:P.info? e=some i)
 {a:Option Addr} {n cap m:Nat} {x:Value} {news:List Value} (hl:(Builtin.lenOf x).run P w=.ok m w) (hf:(Builtin.firstCells i.size (min m n) x).run P w=.ok news.toArray w) {w':World}
 (jL:∀b,a=some b->(storeCells b news).run P w=.ok () w') (oy:a=none->w'=w):
 (Builtin.copy_ #[t,tx] ty #[.slice a n cap,x]).run P w=.ok (.int .i64 (min m n:Nat)) w':=by
 cases a with
 |none=>
  have:=oy rfl
  subst this
  simp[Builtin.copy_,run_underlying ht,sizeOf,typeInfo,hi,hl,goInt,hf]
 |some b=>simp[Builtin.copy_,run_underlying ht,sizeOf,typeInfo,hi,hl,goInt,hf,jL b rfl]
theorem Z6t{I:ab}{w:World}{es:List (List D)}{news:List Value}{sz k:Nat}(h:iu I w es news.toArray 0 sz)(hk:k<=es.length):iu I w (es.take k) (news.take (k*sz)).toArray 0 sz:=by
 rw[uP]at h⊢
 intro i hi
 have il:i<k:=by simp at hi;omega
 obtain⟨h1,h2⟩:=h i (by omega)
 have he:(es.take k).getD i []=es.getD i []:=by simp[aK,aU,il]
 rw[he]
 refine⟨h1,?_⟩
 rw[tB]at h2⊢
 intro j hj
 obtain⟨v,hv,hp⟩:=h2 j hj
 refine⟨v,?_,hp⟩
 have cj:i*sz+j<k*sz:=by
  have:=aV sz (show i+1<=k by omega)
  rw[aW]at this
  omega
 simp only[aX,aY]at hv⊢
 rw[aU,if_pos cj]
 exact hv
theorem Qx1{I:ab}{w:World}{es ys:List (List D)}{A B:List Value}{sz:Nat}(h1:iu I w es A.toArray 0 sz)(hA:A.length=es.length*sz)(h2:iu I w ys B.toArray 0 sz):iu I w (es++ys) (A++B).toArray 0 sz:=by
 rw[uP]at h1 h2⊢
 intro i hi
 by_cases cj:i<es.length
 ·have he:(es++ys).getD i []=es.getD i []:=by simp[aK,aZ cj]
  rw[he]
  obtain⟨g1,g2⟩:=h1 i cj
  refine⟨g1,?_⟩
  rw[tB]at g2⊢
  intro j hj
  obtain⟨v,hv,hp⟩:=g2 j hj
  refine⟨v,?_,hp⟩
  have hl:=(Array.getElem?_eq_some_iff.1 hv).1
  simp only[aY,bA]at hv hl⊢
  rw[aZ hl];exact hv
 ·have il:i-es.length<ys.length:=by simp at hi;omega
  have he:(es++ys).getD i []=ys.getD (i-es.length) []:=by simp[aK,bB (show es.length<=i by omega)]
  rw[he]
  obtain⟨g1,g2⟩:=h2 _ il
  refine⟨g1,?_⟩
  rw[tB]at g2⊢
  intro j hj
  obtain⟨v,hv,hp⟩:=g2 j hj
  refine⟨v,?_,hp⟩
  simp only[aY]at hv⊢
  have e:0+i*sz+j=A.length+(0+(i-es.length)*sz+j):=by
   rw[hA,show i*sz=(es.length+(i-es.length))*sz by congr 1;omega,bC];omega
  rw[e,bB (by omega)]
  rw[show A.length+(0+(i-es.length)*sz+j)-A.length=0+(i-es.length)*sz+j by omega]
  exact hv
theorem Zml{I:ab}{w:World}{es:List (List D)}{arr:Array Value}{sz k:Nat}(h:iu I w es arr 0 sz):iu I w (es.drop k) (arr.toList.drop (k*sz)).toArray 0 sz:=by
 have:=JT (l:=k) h
 rw[uP]at this⊢
 intro i hi
 obtain⟨h1,h2⟩:=this i hi
 refine⟨h1,?_⟩
 rw[tB]at h2⊢
 intro j hj
 obtain⟨v,hv,hp⟩:=h2 j hj
 refine⟨v,?_,hp⟩
 simp only[aY,List.getElem?_drop]
 rw[<-hv]
 simp[Nat.add_assoc]
theorem yD{c:Ctx}{w:World}(hm:Mem c w){r:Nat}{row ao:Row}(hr:c.R r=some row)(h1:ao.box=row.box)(hb:row.box=false)(h2:ao.ty=row.ty)(h3:ao.sz=row.sz)(h4:ao.es.l=row.es.l):jf c w (c.jv r ao) w/\Mem (c.jv r ao) w:=by
 have hg:jf c w (c.jv r ao) w:=by
  refine⟨rfl,aO _,λb hb=>⟨hb,rfl⟩,λs x hs=>?_⟩
  by_cases e:s=r
  ·subst e
   rw[hr]at hs;cases hs
   exact⟨ao,by simp[Ctx.jv],h1,h2,h3,by rw[h4],rfl,Iff.rfl,λ_ a ha=>⟨a,ha,rfl⟩⟩
  ·exact⟨x,by simp[Ctx.jv,e,hs],rfl,rfl,rfl,rfl,rfl,Iff.rfl,λ_ a ha=>⟨a,ha,rfl⟩⟩
 have ju:∀s x,(c.jv r ao).R s=some x->∃x',c.R s=some x':=λs x hs=>by
  by_cases e:s=r
  ·exact⟨row,by rw[e];exact hr⟩
  ·exact⟨x,by simpa[Ctx.jv,e]using hs⟩
 refine⟨hg,λs x hs=>?_,λs q x y hs hq v1 v2 he=>?_,λb iq=>⟨(hm.fh b iq).1,λs x hs hv=>?_⟩,hm.top,hm.kC⟩
 ·by_cases e:s=r
  ·subst e
   simp only[Ctx.jv,if_true,Option.some.injEq]at hs
   subst hs
   rcases hm.row _ row hr with⟨g0,g1,g2,g3⟩|⟨g0,arr,g1,g2,g3⟩
   ·exact .inl ⟨g0,h1.trans g1,h4.trans g2,by rw[h3];exact g3⟩
   ·refine .inr ⟨g0,arr,by rw[h2];exact g1,by rw[h3];exact g2,?_⟩
    rw[if_neg (by rw[hb];simp)]at g3
    rw[if_neg (by rw[h1,hb];simp),h4,h3]
    exact g3
  ·have jd:c.R s=some x:=by simpa[Ctx.jv,e]using hs
   exact tC hg rfl Iff.rfl (λ_=>rfl) (hm.row s x jd)
 ·obtain⟨x',jz⟩:=ju s x hs
  obtain⟨y',wU⟩:=ju q y hq
  exact hm.inj s q x' y' jz wU v1 v2 he
 ·obtain⟨x',jz⟩:=ju s x hs
  exact(hm.fh b iq).2 s x' jz hv
theorem ya{P:Program}{T:ff}(hT:jt P T){t tx ty:TypeId}{x y:D}{R:Rows}{K:D->Rows->Prop}(h:tD T t tx x y R K):
 ∃ val R',K val R'/\∀c w vx vy,Mem c w->(∀r,c.R r=R.getD r none)->Rep c w x vx->Rep c w y vy->
  ∃v' w' c',(Builtin.copy_ #[t,tx] ty #[vx,vy]).run P w=.ok v' w'/\lu c w c' w'/\(∀r,c'.R r=R'.getD r none)/\Rep c' w' val v':=by
 unfold tD at h
 split at h
 ·rename_i e iz _ _ _ _ _ ht
  have hk:=mv hT ht
  simp only at hk
  split at h
  ·rename_i ke sz ly cs z q kx _ _ _ _ _ he htx
   obtain⟨i0,rh,Ea,_,AL,wV,_⟩:=Qa (hT.get he)
   simp only at Ea
   split at h
   ·rename_i sy ys jR
    simp only[c7,aE,aI]at h
    obtain⟨⟨⟨h0,h1⟩,h5⟩,h⟩:=h
    have h0:0<sz:=lE h0
    have h5:sy=sz\/ys.l=[]:=h5.imp bE Z9
    have core:∀(r o n k:Nat) (jP:TypeId) (es iW:ak),iW.l=es.l.take o++ys.l.take k++es.l.drop (o+k)->R.getD r none=some ⟨false,jP,sz,es⟩->k=min ys.l.length n->o+n<=es.l.length->∀c w vx vy,Mem c w->(∀r,c.R r=R.getD r none)->
     ((n=0/\∃a,vx=.slice a 0 0)\/(¬c.V r/\∃cap arr,vx=.slice (some ⟨c.ρ r,o*sz,none⟩) n cap/\w.heap[c.ρ r]?=some (.cells arr jP (0,0))))->Rep c w y vy->
     ∃v' w' c',(Builtin.copy_ #[t,tx] ty #[vx,vy]).run P w=.ok v' w'/\lu c w c' w'/\(∀q,c'.R q=(R.set r (some ⟨false,jP,sz,iW⟩)).getD q none)/\v'=.int .i64 (k:Nat):=by
     intro r o n k jP es iW HI hr DX JU c w vx vy hm hR hx hy
     have oI:mf c R:=λr row ao g1 g2=>by rw[hR,g2]at g1;exact(Option.some.inj g1).symm
     obtain⟨news,s1,s2,s3,s4⟩:=y3 (P:=P) h0 jR h5 hm oI hy
     have cb:c.R r=some ⟨false,jP,sz,es⟩:=by rw[hR];exact hr
     rcases hx with⟨hn0,a,hx⟩|⟨hV,cap,arr,hx,hh⟩
     ·subst hx
      have wV:k=0:=by omega
      have gz:=Zeb (P:=P) w (ty:=ty) (tx:=tx) (a:=a) (n:=0) (cap:=0) (news:=[]) (w':=w) hk.1 rh s2 (by rw[Ea];simpa using s3 0 (Nat.zero_le _) w rfl) (λb _=>by simp[storeCells]) (λ_=>rfl)
      have hl:iW.l=es.l:=by rw[HI,wV];simp
      obtain⟨u1,u2⟩:=yD hm cb (ao:=⟨false,jP,sz,iW⟩) rfl rfl rfl rfl hl
      refine⟨_,w,c.jv r ⟨false,jP,sz,iW⟩,gz,⟨u2,u1,Fr.refl _ w,λb hb=>.inl hb,λq row hq v=>.inl ⟨?_,v,rfl⟩⟩,λq=>?_,by rw[wV];simp⟩
      ·by_cases e:q=r
       ·exact⟨_,by rw[e];exact cb⟩
       ·exact⟨row,by simpa[Ctx.jv,e]using hq⟩
      ·rw[Vr hr]
       simp only[Ctx.jv]
       split
       ·rfl
       ·exact hR q
     ·subst hx
      obtain⟨cur,ha,_,hE⟩:=hm.real cb hV
      simp only at ha
      rw[hh]at ha;cases ha
      simp only[aN,if_false]at hE
      have kE:es.l.length*sz<=arr.size:=by
       by_cases he:es.l.length=0
       ·rw[he];omega
       ·have:=Z0i hE h0 (show es.l.length-1<es.l.length by omega)
        have e1:es.l.length*sz=(es.l.length-1)*sz+sz:=by rw[show es.l.length*sz=(es.l.length-1+1)*sz by congr 1;omega,aW]
        omega
      have Vs:k<=ys.l.length/\k<=n:=by omega
      have pH:o*sz+0+(news.take (k*sz)).length<=arr.size:=by
       have h1:(o+k)*sz<=es.l.length*sz:=aV _ (by omega)
       rw[bC]at h1
       rw[bD];omega
      have hlen:(news.take (k*sz)).length=k*sz:=by
       have:=aV sz Vs.1
       rw[bD];omega
      have jL:=run_storeCells_at (P:=P) (c.ρ r) (o*sz) jP (news.take (k*sz)) 0 arr w hh pH (λu hu=>iu.one s4 s1 u (List.mem_of_mem_take hu))
      have gz:=Zeb (P:=P) w (ty:=ty) (tx:=tx) (a:=some ⟨c.ρ r,o*sz,none⟩) (n:=n) (cap:=cap) (news:=news.take (k*sz)) (w':=w.setRow (c.ρ r) (arr.toList.take (o*sz+0)++news.take (k*sz)++arr.toList.drop (o*sz+0+(news.take (k*sz)).length)).toArray) hk.1 rh s2 (by rw[Ea,<-DX];exact s3 k Vs.1 w rfl) (λb hb=>by cases hb;simpa using jL) (λh=>by cases h)
      have uQ:iW.l.length=es.l.length:=by rw[HI];simp only[lA,bD,bF];omega
      have hw:=hm.write (ao:=⟨false,jP,sz,iW⟩) cb hV hh (arr:=(arr.toList.take (o*sz+0)++news.take (k*sz)++arr.toList.drop (o*sz+0+(news.take (k*sz)).length)).toArray)
       (by simp only[bA,lA,bD,bF,Array.length_toList];simp only[bD]at pH;omega) rfl rfl rfl uQ
      have gl:=hw.2 ⟨h0,by
       simp only[aN,if_false]
       rw[HI]
       refine nP (λb hb=>⟨hb,(hw.1.I b hb).2⟩) _ _ _ _ ?_
       have p1:=Z6t (k:=o) (I:=c.I) (w:=w) (news:=arr.toList) (es:=es.l) (sz:=sz) (by simpa using hE) (by omega)
       have p2:=Z6t (k:=k) s4 Vs.1
       have p3:=Zml (k:=o+k) hE
       have l1:(arr.toList.take (o*sz)).length=(es.l.take o).length*sz:=by
        have:=aV sz (show o<=es.l.length by omega)
        rw[bD,bD,show min o es.l.length=o by omega,show arr.toList.length=arr.size from rfl];omega
       have q1:=Qx1 p1 l1 p2
       have l2:(arr.toList.take (o*sz)++news.take (k*sz)).length=(es.l.take o++ys.l.take k).length*sz:=by
        rw[lA,l1,hlen,lA,bC,bD (l:=ys.l),show min k ys.l.length=k by omega]
       have q2:=Qx1 q1 l2 p3
       have e2:o*sz+0+(news.take (k*sz)).length=(o+k)*sz:=by rw[hlen,bC];omega
       rw[e2]
       simpa using q2⟩
      refine⟨_,_,c.jv r ⟨false,jP,sz,iW⟩,gz,⟨gl,hw.1,(RL w _ _).mono λb _ hb=>⟨r,_,cb,hV,hb.symm⟩,λb hb=>.inl hb,λq ao hq v=>.inl ⟨?_,v,rfl⟩⟩,λq=>?_,by rw[DX]⟩
      ·by_cases e:q=r
       ·exact⟨_,by rw[e];exact cb⟩
       ·exact⟨ao,by simpa[Ctx.jv,e]using hq⟩
      ·rw[Vr hr]
       simp only[Ctx.jv]
       split
       ·rfl
       ·exact hR q
    cases x<;>simp only at h
    case all r=>
     split at h
     ·rename_i jP s es hr
      simp only[c7,mO]at h
      have hs:=bE h.1
      subst hs
      refine⟨_,_,h.2,λc w vx vy hm hR hx hy=>?_⟩
      obtain⟨row,q1,q2,hv⟩:=hx
      have cb:row=⟨false,jP,s,es⟩:=by rw[hR,hr]at q1;exact(Option.some.inj q1).symm
      subst cb
      have jz:(es.l.length=0/\∃a,vx=.slice a 0 0)\/(¬c.V r/\∃cap arr,vx=.slice (some ⟨c.ρ r,0*s,none⟩) es.l.length cap/\w.heap[c.ρ r]?=some (.cells arr jP (0,0))):=by
       rcases hv with⟨hV,a,hv,_⟩|⟨hV,cap,arr,hv,h1,h2,h3,h4⟩
       ·have:=(hm.nQ q1 hV).2.1
        simp only at this
        exact .inl ⟨by rw[this];rfl,a,hv⟩
       ·exact .inr ⟨hV,cap,arr,by rw[Nat.zero_mul];exact hv,h3⟩
      obtain⟨v',w',c',p1,p2,p3,p4⟩:=core r 0 es.l.length _ jP es ((ys.take (min ys.len es.len)).app (es.drop (min ys.len es.len))) (by rw[ak.jS,ak.iT,ak.j4,ak.ik,ak.ik];simp) hr rfl (by omega) c w vx vy hm hR jz hy
      exact⟨v',w',c',p1,p2,p3,by rw[p4,ak.ik,ak.ik];rfl⟩
     ·exact h.elim
    case own r o n=>
     split at h
     ·rename_i jP s es hr
      simp only[c7,mO]at h
      have hs:=bE h.1
      subst hs
      refine⟨_,_,h.2,λc w vx vy hm hR hx hy=>?_⟩
      obtain⟨row,q1,q2,ho,hv⟩:=hx
      have cb:row=⟨false,jP,s,es⟩:=by rw[hR,hr]at q1;exact(Option.some.inj q1).symm
      subst cb
      have jz:(n=0/\∃a,vx=.slice a 0 0)\/(¬c.V r/\∃cap arr,vx=.slice (some ⟨c.ρ r,o*s,none⟩) n cap/\w.heap[c.ρ r]?=some (.cells arr jP (0,0))):=by
       rcases hv with⟨h0,a,hv,_⟩|⟨hV,cap,arr,h1,h2,h3,hv,h4⟩
       ·exact .inl ⟨h0,a,hv⟩
       ·exact .inr ⟨hV,cap,arr,hv,h3⟩
      obtain⟨v',w',c',p1,p2,p3,p4⟩:=core r o n _ jP es (((es.take o).app (ys.take (min ys.len n))).app (es.drop (o+min ys.len n))) (by rw[ak.jS,ak.jS,ak.iT,ak.iT,ak.j4,ak.ik]) hr rfl ho c w vx vy hm hR jz hy
      exact⟨v',w',c',p1,p2,p3,by rw[p4,ak.ik];rfl⟩
     ·exact h.elim
   ·exact h.elim
  ·exact h.elim
 ·exact h.elim
theorem Zjw{mx:Bool}{x y:D}{K:D->Prop}(h:uR mx x y K):∃val,K val/\∀(P:Program) c w vx vy,Rep c w x vx->Rep c w y vy->∃u,((mx=false->∀c9 ty,(Builtin.min_ c9 ty #[vx,vy]).run P w=.ok u w)/\(mx=true->∀c9 ty,(Builtin.max_ c9 ty #[vx,vy]).run P w=.ok u w))/\Rep c w val u:=by
 unfold uR at h
 split at h
 ·rename_i k a k' b
  simp only[c7,decide_eq_true_eq]at h
  obtain⟨rfl,h⟩:=h
  refine⟨_,h,λP c w vx vy hx hy=>⟨_,⟨λe c9 ty=>?_,λe c9 ty=>?_⟩,rfl⟩⟩
  ·subst e
   rw[Rep.int.1 hx,Rep.int.1 hy]
   simp[Builtin.min_,Builtin.min2]
  ·subst e
   rw[Rep.int.1 hx,Rep.int.1 hy]
   simp[Builtin.max_,Builtin.max2]
 ·exact h.elim
theorem vD{P:Program}{T:ff}(hT:jt P T){t:TypeId}{es:ak}{K:D->Prop}(h:Bn T t es K):K (.pF es)/\∀s fr c w vx vy,Rep c w (.sl s es fr) vx->Rep c w .dq vy->∃u,(∀x y,(do eqGuard .eql t x y vx vy;binOp .eql t vx vy).run P w=.ok u w)/\Rep c w (.pF es) u:=by
 unfold Bn at h
 split at h
 ·rename_i e n _ _ _ _ _ ht
  have hk:=mv hT ht
  simp only at hk
  refine⟨h,λs fr c w vx vy hx hy=>?_⟩
  obtain⟨a,cap,hv,hc,ia⟩:=hx
  rw[show vy=_ from hy,hv]
  refine⟨.bool a.isNone,λx y=>?_,a.isNone,rfl,λe'=>?_⟩
  ·have hg:(eqGuard .eql t x y (.slice a es.l.length cap) (.slice none 0 0)).run P w=.ok () w:=rfl
   rw[Sem.run_bind,hg]
   simp only[Result.andThen_ok,binOp]
   simp only[run_equal_slice_nil w t e a es.l.length cap hk.1,Sem.run_bind,Result.andThen_ok,Sem.run_pure]
  ·rcases ia with ia|⟨b,off,arr,ty,fz,ha,_⟩
   ·exact ia
   ·subst ha;cases e'
 ·exact h.elim
theorem Zmg{I:ab}{w:World}{l:List Int}{news:List Value}(h:iu I w (ak.ints .u8 l).l news.toArray 0 1)(hl:news.length=(ak.ints .u8 l).l.length*1):news=l.map (Value.int .u8):=by
 have sW:news.length=l.length:=by simpa[ak.len]using hl
 apply List.ext_getElem?
 intro i
 by_cases hi:i<l.length
 ·obtain⟨h1,h2⟩:=uP.1 h i (by simpa[ak.len]using hi)
  rw[ak.mP _ (show i<(ak.ints .u8 l).len from hi)]at h2
  simp only[ak.get,Bo,wW,rO,ri,rP,rQ,rR,rS,sX,tE,tF,tG,tH,tI,tJ,tK,tL,tM,and_true]at h2
  obtain⟨v,hv,hp⟩:=h2
  simp only[aX,Nat.mul_one,bG,aY]at hv
  rw[hv,hp]
  simp[aK,hi]
 ·rw[aM (by omega),aM (by simp;omega)]
theorem qE{P:Program}{T:ff}(hT:jt P T){s e d:TypeId}{n a1 a2:Nat}{a3:List pI}{a4:Option (List D)}{a5:Bool}(hs:T.get s=some ⟨.slice e n,a1,a2,a3,a4,a5⟩){x:D}{R:Rows}{K:D->Prop}(h:uS T e d x R K):
 ∃val,K val/\∀c w v,Mem c w->mf c R->Rep c w x v->FC P (convert s d v) w c val:=by
 unfold uS at h
 split at h
 ·rename_i he hd
  have nL:=mv hT hs
  have rb:=mv hT he
  have JV:=mv hT hd
  simp only at nL rb JV
  split at h
  ·rename_i sy es jR
   split at h
   rotate_left
   ·exact h.elim
   rename_i l hto
   have JW:=ak.toI_l hto
   simp only[c7,aI]at h
   obtain⟨h5,h⟩:=h
   have h5:sy=1\/es.l=[]:=h5.imp bE Z9
   refine⟨_,h,λc w v hm hA hr=>?_⟩
   have hsl:∃a cap,v=.slice a es.l.length cap:=by
    cases x<;>simp only[rT]at jR<;>try(cases jR;done)
    case dq=>cases jR;exact⟨none,0,hr⟩
    case emp=>cases jR;obtain⟨a,hr,_⟩:=hr;exact⟨a,0,hr⟩
    case sl=>cases jR;obtain⟨a,cap,hv,_⟩:=hr;exact⟨a,cap,hv⟩
    case all r=>
     split at jR
     ·rename_i jP s' iW hR
      cases jR
      obtain⟨row,g1,g2,hv⟩:=hr
      have:=hA r row _ g1 hR
      subst this
      rcases hv with⟨hV,a,hv,_⟩|⟨hV,cap,arr,hv,_⟩
      ·have he:=(hm.nQ g1 hV).2.1
       simp only at he
       exact⟨a,0,by rw[he];exact hv⟩
      ·exact⟨_,cap,hv⟩
     ·cases jR
    case own r o m=>
     split at jR
     ·rename_i jP s' iW hR
      cases jR
      obtain⟨row,g1,g2,g5,hv⟩:=hr
      have:=hA r row _ g1 hR
      subst this
      simp only at g5
      have hlen:((iW.drop o).take m).l.length=m:=by rw[ak.iT,ak.j4];simp only[bD,bF];omega
      rw[hlen]
      rcases hv with⟨h0,a,hv,_⟩|⟨hV,cap,arr,_,_,_,hv,_⟩
      ·subst h0;exact⟨a,0,hv⟩
      ·exact⟨_,cap,hv⟩
     ·cases jR
   obtain⟨a,cap,hv⟩:=hsl
   subst hv
   obtain⟨news,s1,s2,s3,s4⟩:=y0 (P:=P) (by omega) jR h5 hm hA hr
   rw[JW]at s1 s4
   have hn:=Zmg s4 s1
   have hlen:es.l.length=l.length:=by rw[JW];simp[ak.len]
   have hf:=s3 es.l.length (aO _) w rfl
   rw[List.take_of_length_le (by rw[hn,hlen];simp)]at hf
   refine⟨.string ⟨(bytesOf l).toArray⟩,?_,rfl⟩
   rw[run_convert_bytes_string w s d e a es.l.length cap nL.1 rb JV]
   cases a with
   |none=>
    simp only[Builtin.firstCells,Sem.run_pure,Result.ok.injEq,and_true]at hf
    have h1:news=[]:=by
     have:=congrArg Array.toList hf
     simpa using this.symm
    have he:l=[]:=by rw[h1]at hn;simpa using hn.symm
    subst he
    simp only[Conv.bytesToString,Sem.run_pure,bytesOf,List.map_nil]
    rfl
   |some a=>
    simp only[Builtin.firstCells,Nat.mul_one]at hf
    rw[hn]at hf
    rw[run_bytesToString w a es.l.length cap _ hf,foldl_push_bytes]
    have he0:ByteArray.empty.data= #[]:=rfl
    rw[he0]
    simp[bytesOf]
  ·exact h.elim
 ·exact h.elim
structure wP(c0:Ctx)(w0:World)(c:Ctx)(w:World):Prop where
 bz:jf c0 w0 c w
 fr:Fr (λb=>(∃r x,c0.R r=some x/\¬c0.V r/\c0.ρ r=b)\/c0.X b) w0 w
 fh:∀b,c.I b->c0.I b\/c0.X b\/w0.heap.size<=b
 nS:∀r row,c.R r=some row->¬c.V r->((∃x,c0.R r=some x)/\¬c0.V r/\c.ρ r=c0.ρ r)\/c0.X (c.ρ r)\/w0.heap.size<=c.ρ r
 xb:∀b,c0.X b->c0.base<=b
theorem wP.refl(c:Ctx)(w:World):wP {c with X:=λ_=>False} w c w:=
 ⟨⟨rfl,aO _,λ_ h=>⟨h,rfl⟩,λ_ row h=>⟨row,h,rfl,rfl,rfl,rfl,rfl,Iff.rfl,λ_ arr h=>⟨arr,h,rfl⟩⟩⟩,Fr.refl _ w,λ_ h=>.inl h,λ_ row h v=>.inl ⟨⟨row,h⟩,v,rfl⟩,λ_ h=>h.elim⟩
theorem Zgr{c0 c:Ctx}{w0 w:World}{M:Nat}{ks:List Nat}(hM:∀k,bq k ks=true->M<=k)(Eb:∀r row,c0.R r=some row->r<M)(h:jf c0 w0 c w):jf c0 w0 (c.kill ks) w:=by
 refine⟨h.base,h.top,h.I,λr row hr=>?_⟩
 obtain⟨ao,g1,g2,g3,g4,g5,g6,gV,g7⟩:=h.R r row hr
 obtain⟨s1,s2,s3,s4⟩:=uT ks ao
 have cj:=Eb r row hr
 refine⟨ao.kill ks,?_,s1.trans g2,s2.trans g3,s3.trans g4,s4.trans g5,g6,gV,g7⟩
 simp only[Ctx.kill]
 rw[if_neg (λe=>by have:=hM r e;omega),g1];rfl
theorem wP.step{c0 c c':Ctx}{w0 w w':World}{M:Nat}{ks:List Nat}(hM:∀k,bq k ks=true->M<=k)(Eb:∀r row,c0.R r=some row->r<M)(h:wP c0 w0 c w)(n:jA ks c w c' w'):wP c0 w0 c' w':=by
 have Bp:∀s x,bq s ks=true->c.R s=some x->¬c.V s->c0.X (c.ρ s)\/w0.heap.size<=c.ρ s:=λs x hs hx v'=>by
  rcases h.nS s x hx v' with⟨⟨y,hy⟩,_⟩|e'
  ·have:=Eb s y hy;have:=hM s hs;omega
  ·exact e'
 refine⟨(Zgr hM Eb h.bz).trans n.bz,⟨n.fr.os.trans h.fr.os,n.fr.tape.trans h.fr.tape,n.fr.output.trans h.fr.output,bH h.fr.size n.fr.size,λb hb hx=>?_⟩,λb hb=>?_,λr row hr hv=>?_,h.xb⟩
 ·have cj:b<w.heap.size:=bI hb h.fr.size
  refine(n.fr.heap b cj fun⟨r,x,hr,v,e⟩=>?_).trans (h.fr.heap b hb hx)
  rcases h.nS r x hr v with⟨⟨y,hy⟩,v',e'⟩|e'|e'
  ·exact hx (.inl ⟨r,y,hy,v',by rw[<-e',e]⟩)
  ·exact hx (.inr (by rw[<-e];exact e'))
  ·omega
 ·rcases n.fh b hb with h1|⟨s,x,hs,hx,v',e⟩|h1
  ·exact h.fh b h1
  ·rcases Bp s x hs hx v' with h1|h1
   ·exact .inr (.inl (by rw[<-e];exact h1))
   ·exact .inr (.inr (by omega))
  ·have:=h.fr.size;exact .inr (.inr (by omega))
 ·rcases n.nS r row hr hv with⟨⟨x,hx⟩,v',e⟩|⟨s,x,hs,hx,v',e⟩|e
  ·rcases h.nS r x hx v' with⟨h1,h2,e'⟩|e'|e'
   ·exact .inl ⟨h1,h2,e.trans e'⟩
   ·exact .inr (.inl (by rw[e];exact e'))
   ·exact .inr (.inr (by omega))
  ·rcases Bp s x hs hx v' with h1|h1
   ·exact .inr (.inl (by rw[e];exact h1))
   ·exact .inr (.inr (by omega))
  ·have:=h.fr.size;exact .inr (.inr (by omega))
def lG(n:Nat)(w:World)(ds:List Deferred):Prop:=∃bs:List Nat,bs.Nodup/\ds=bs.map (λb=>({target:=.collected b,args:= #[]}:Deferred))/\∀b∈bs,n<=b/\w.heap[b]?=some (.deferred (some []))
theorem lG.nil{n:Nat}{w:World}:lG n w []:=⟨[],List.nodup_nil,rfl,λb hb=>by simp at hb⟩
theorem lG.to{n:Nat}{w w':World}{ds:List Deferred}(h:lG n w ds)(hf:∀b:Nat,w.heap[b]?=some (Obj.deferred (some []))->w'.heap[b]?=some (Obj.deferred (some []))):lG n w' ds:=by
 obtain⟨bs,h1,h2,h3⟩:=h
 exact⟨bs,h1,h2,λb hb=>⟨(h3 b hb).1,hf b (h3 b hb).2⟩⟩
theorem lG.step{n:Nat}{c:Ctx}{w w':World}{ds:List Deferred}(h:lG n w ds)(hm:Mem c w)(hf:Fr (λb=>∃r x,c.R r=some x/\¬c.V r/\c.ρ r=b) w w'):lG n w' ds:=by
 refine h.to λb h2=>(hf.heap b (Array.getElem?_eq_some_iff.1 h2).1 fun⟨r,x,hr,hV,e⟩=>?_).trans h2
 rcases hm.row r x hr with h3|⟨_,arr,h3,_⟩
 ·exact hV h3.1
 ·rw[e,h2]at h3;cases h3
theorem lG.put{n:Nat}{w:World}{a:Act}{dst:Option Tmp}{v:Value}(h:lG n w a.defers):lG n w (a.put dst v).defers:=by
 cases dst<;>exact h
structure fk(N M:Nat)(c0:Ctx)(w0:World)(c:Ctx)(w:World)(st:St)(a:Act):Prop where
 mem:Mem c w
 rows:∀r,c.R r=st.rows.getD r none
 env:∀t,Rep c w (look st.env t) (a.tmps.getD t undef)
 size:N<=a.tmps.size
 defers:lG w0.heap.size w a.defers
 fw:c0.base<=w0.heap.size
 gk:∀r row,c0.R r=some row->r<M
 reach:wP c0 w0 c w
theorem fk.base{N M:Nat}{c0:Ctx}{w0:World}{c:Ctx}{w:World}{st:St}{a:Act}(h:fk N M c0 w0 c w st a):c.base<=w.heap.size:=by
 rw[h.reach.bz.base];exact bH h.fw h.reach.fr.size
theorem JQ{c:Ctx}{w:World}{env:List (Nat×D)}{a:Act}(f:Nat):Rep c w (bo env (.func f)) (a.eval (.func f)):=by
 simp only[bo,Act.eval]
 cases h:bJ f YB with
 |false=>trivial
 |true=>exact⟨[],.inl ⟨lE h,rfl⟩,trivial⟩
theorem Mz{c:Ctx}{w:World}{env:List (Nat×D)}{a:Act}(h:∀t,Rep c w (look env t) (a.tmps.getD t undef))(x:Operand):Rep c w (bo env x) (a.eval x):=by
 cases x with
 |tmp t=>exact h t
 |const v=>
  simp only[bo,Act.eval]
  cases hv:FA v with
  |none=>trivial
  |some d=>exact Ms hv c w
 |global g=>trivial
 |func f=>exact JQ f
def rI(env:List (Nat×D))(dst:Option Tmp)(d:D):List (Nat×D):=match dst with|none=>env|some t=>(t,d)::env
theorem AJ(env:List (Nat×D))(t:Nat)(d:D)(s:Nat):look ((t,d)::env) s=if t=s then d else look env s:=by
 simp only[look]
 cases hb:Nat.beq t s with
 |true=>rw[if_pos (bE hb)]
 |false=>rw[if_neg (λe=>by rw[e]at hb;simp at hb)]
theorem Z6a{c:Ctx}{w:World}{env:List (Nat×D)}{a:Act}{N:Nat}(hN:N<=a.tmps.size){dst:Option Tmp}(hd:∀t,dst=some t->t<N){d:D}{v:Value}(h:∀t,Rep c w (look env t) (a.tmps.getD t undef))(hv:Rep c w d v)(t:Nat):
 Rep c w (look (rI env dst d) t) ((a.put dst v).tmps.getD t undef):=by
 cases dst with
 |none=>exact h t
 |some s=>
  have hs:=hd s rfl
  simp only[rI,Act.put,AJ]
  by_cases e:s=t
  ·subst e
   rw[if_pos rfl]
   have cj:s<a.tmps.size:=bI hs hN
   simpa[aP,cj]using hv
  ·rw[if_neg e]
   have:=h t
   simpa[Array.getElem?_setIfInBounds_ne e]using this
def jk:List Operand->Nat
 |[]=>1
 |.tmp t::l=>t+1+jk l
 |_::l=>jk l
theorem Vt:∀{l:List Operand},0<jk l
 |[]=>by simp[jk]
 |x::l=>by cases x<;>simp only[jk]<;>have:=Vt (l:=l)<;>omega
theorem RM{t:Nat}:∀{l:List Operand},.tmp t∈l->t<jk l
 |x ::l,h=>by
  rcases List.mem_cons.1 h with e|e
  ·subst e;simp only[jk];omega
  ·have:=RM e
   cases x<;>simp only[jk]<;>omega
def FD(B:Nat):List ij->List (Nat×D)
 |[]=>[]
 |x::l=>(B,x.d)::FD (B+1) l
theorem MA{env:List (Nat×D)}:∀{cs:List ij} {B t:Nat},look (FD B cs++env) t=if h:B<=t/\t-B<cs.length then(cs[t-B]'h.2).d else look env t
 |[],B,t=>by simp[FD]
 |x ::l,B,t=>by
  simp only[FD,List.cons_append,AJ,MA (cs:=l) (B:=B+1)]
  by_cases e:B=t
  ·subst e;simp
  ·rw[if_neg e]
   by_cases h:B+1<=t/\t-(B+1)<l.length
   ·rw[dif_pos h,dif_pos (by simp;omega)]
    have:t-B=(t-(B+1))+1:=by omega
    simp only[this,List.getElem_cons_succ]
   ·rw[dif_neg h,dif_neg (by simp;omega)]
def Ec(args:Array Operand)(n:Nat):Array Operand:=(args.toList++(bK (jk args.toList) n).map Operand.tmp).toArray
def sY(a:Act)(B:Nat)(us:List Value):Act:={tmps:=((List.range B).map (λi=>a.tmps.getD i undef)++us).toArray,defers:=[]}
theorem Ze0{a:Act}{B:Nat}{us:List Value}{t:Nat}(h:t<B):(sY a B us).tmps.getD t undef=a.tmps.getD t undef:=by
 simp[sY,aP,h,List.getElem_append]
 omega
theorem Zfk{a:Act}{B:Nat}{us:List Value}{i:Nat}:(sY a B us).tmps.getD (B+i) undef=us.getD i undef:=by
 simp only[sY,Array.getD_eq_getD_getElem?,aY]
 rw[bB (by simp)]
 simp[aK]
theorem oz.length{c:Ctx}{w:World}:∀{cs:List ij} {us:List Value},oz c w cs us->us.length=cs.length
 |[],[],_=>rfl
 |_::_,_::_,h=>by simp[oz.length h.2]
 |[],_::_,h=>h.elim
 |_::_,[],h=>h.elim
theorem oz.get{c:Ctx}{w:World}:∀{cs:List ij} {us:List Value},oz c w cs us->∀i (h:i<cs.length),RN c w (cs[i]'h) (us.getD i undef)
 |[],[],_,i,h=>by simp at h
 |_::_,_::_,h,0,_=>by simpa using h.1
 |_::_,_::_,h,i+1,hi=>by simpa using oz.get h.2 i (by simpa using hi)
 |[],_::_,h,_,_=>h.elim
 |_::_,[],h,_,_=>h.elim
theorem Z7e{env:List (Nat×D)}{args:Array Operand}{cs:List ij}:(Ec args cs.length).toList.map (bo (FD (jk args.toList) cs++env))=args.toList.map (bo env)++cs.map ij.d:=by
 simp only[Ec,bL]
 congr 1
 ·refine bM λx hx=>?_
  cases x with
  |tmp t=>simp only[bo,MA];rw[dif_neg (by have:=RM hx;omega)]
  |_=>rfl
 ·refine bN (by simp) λi h1 h2=>?_
  have:i<cs.length:=by simpa using h2
  simp only[bO,bP,bo,MA]
  rw[dif_pos (by omega)]
  congr 1
  simp
theorem Qxg{a:Act}{args:Array Operand}{us:List Value}:(Ec args us.length).toList.map (sY a (jk args.toList) us).eval=args.toList.map a.eval++us:=by
 simp only[Ec,bL]
 congr 1
 ·refine bM λx hx=>?_
  cases x with
  |tmp t=>exact Ze0 (RM hx)
  |_=>rfl
 ·refine bN (by simp) λi h1 h2=>?_
  have:i<us.length:=h2
  simp only[bO,bP,Act.eval,Nat.one_mul]
  rw[Zfk]
  simp[aK,this]
theorem Bq{c:Ctx}{w:World}{env:List (Nat×D)}{a:Act}{args:Array Operand}{cs:List ij}{us:List Value}(hl:∀x∈args.toList,Rep c w (bo env x) (a.eval x))(hc:oz c w cs us):∀x∈(Ec args cs.length).toList,Rep c w (bo (FD (jk args.toList) cs++env) x) ((sY a (jk args.toList) us).eval x):=by
 intro x hx
 simp only[Ec,List.mem_append,List.mem_map]at hx
 rcases hx with hx|⟨t,ht,rfl⟩
 ·have:=hl x hx
  cases x with
  |tmp t=>
   have cj:=RM hx
   simp only[bo,MA,Act.eval]
   rw[dif_neg (by omega),Ze0 cj]
   exact this
  |_=>exact this
 ·rw[List.mem_range'_1]at ht
  obtain⟨i,hi,rfl⟩:∃i:Nat,i<cs.length/\t=jk args.toList+i:=⟨t-jk args.toList,Nat.sub_lt_left_of_lt_add ht.1 ht.2,(Nat.add_sub_cancel' ht.1).symm⟩
  have h2:=oz.get hc i hi
  have h3:look (FD (jk args.toList) cs++env) (jk args.toList+i)=(cs[i]'hi).d:=by
   rw[MA,dif_pos ⟨by omega,by omega⟩]
   congr 1
   simp
  simp only[bo,Act.eval]
  rw[h3,Zfk]
  exact Rep.JX (VRep.Ed (Vu.1 h2))
theorem zaz{P:Program}{f:FuncId}(he:∀args w,(callFunc f args).run P w=.ok (.enter f args) w){dst:Option Tmp}{t:Tmp}{args:Array Operand}{c9:Array TypeId}{type:TypeId}{pos:String}{after:Array Edge}{guard:Option (Nat×Bool)}{a:Act}{w:World}{us:List Value}
 (ht:a.eval (.tmp t)=.func (.func f) #[] us.toArray) {K:Act->World->Prop} {Q:Exit->Act->World->Prop}
 (h:(⟨some 0,.call ⟨.value (.func f),Ec args us.length,c9⟩,type,pos,after,guard⟩:Oper).mN P (sY a (jk args.toList) us) w (λa' w'=>K (a.put dst (a'.tmps.getD 0 undef)) w') (λ_ _ _=>False)):
 (⟨dst,.call ⟨.value (.tmp t),args,c9⟩,type,pos,after,guard⟩:Oper).mN P a w K Q:=by
 have hv:=Qxg (a:=a) (args:=args) (us:=us)
 have r1:(execOp (sY a (jk args.toList) us).eval (⟨some 0,.call ⟨.value (.func f),Ec args us.length,c9⟩,type,pos,after,guard⟩:Oper)).run P w=.ok (.enter f (args.toList.map a.eval++us).toArray) w:=by
  simp only[execOp,resolve,Act.eval,Deferred.ofValue,Sem.run_bind,Sem.run_pure,Result.andThen_ok,invoke,bQ,Array.append_empty]
  rw[he,<-hv,<-bR,bS]
 have r2:(execOp a.eval (⟨dst,.call ⟨.value (.tmp t),args,c9⟩,type,pos,after,guard⟩:Oper)).run P w=.ok (.enter f (args.toList.map a.eval++us).toArray) w:=by
  simp only[execOp,resolve,ht,Deferred.ofValue,Sem.run_bind,Sem.run_pure,Result.andThen_ok,invoke,bQ]
  rw[he]
  congr 2
  rw[<-List.append_toArray,<-bR,bS]
 have cj:0<(sY a (jk args.toList) us).tmps.size:=by have:=Vt (l:=args.toList);simp[sY];omega
 unfold Oper.mN at h⊢
 rw[r1]at h
 rw[r2]
 refine Calls.mono h λe w' ⟨v,he,hp⟩=>⟨v,he,?_⟩
 have:((sY a (jk args.toList) us).put (some 0) v).tmps.getD 0 undef=v:=by
  simp only[Act.put]
  simp[aP,cj]
 simp only[this]at hp
 exact hp
theorem xE{P:Program}{dst:Option Tmp}{t:Tmp}{args:Array Operand}{c9:Array TypeId}{type:TypeId}{pos:String}{after:Array Edge}{guard:Option (Nat×Bool)}{a:Act}{w:World}{l:Nat}{rec:Loop}
 (ht:a.eval (.tmp t)=.func (.yield l) #[] #[]) (hl:w.heap[l]?=some (.loop rec)) {K:Act->World->Prop} {Q:Exit->Act->World->Prop} (hs:(args.toList.map a.eval).length=rec.params.size)
 (h:RoundIn Fence.wide 0 P l rec.fn ((rec.params.zip (args.toList.map a.eval).toArray).foldl (λtmps (t,a)=>tmps.setIfInBounds t a) rec.tmps) rec.assign rec.body w λe w'=>∃v,e=.returned v/\K (a.put dst v) w'):
 (⟨dst,.call ⟨.value (.tmp t),args,c9⟩,type,pos,after,guard⟩:Oper).mN P a w K Q:=by
 have r2:(execOp a.eval (⟨dst,.call ⟨.value (.tmp t),args,c9⟩,type,pos,after,guard⟩:Oper)).run P w=.ok (.round l rec.fn ((rec.params.zip (args.toList.map a.eval).toArray).foldl (λtmps (t,a)=>tmps.setIfInBounds t a) rec.tmps) rec.assign rec.body) w:=by
  simp only[execOp,resolve,ht,Deferred.ofValue,Sem.run_bind,Sem.run_pure,Result.andThen_ok,invoke,bQ]
  have hy:=run_yield (P:=P) (args:=(args.toList.map a.eval).toArray) hl (by simpa using hs)
  rw[<-hy,<-bR,bS]
 unfold Oper.mN
 rw[r2]
 exact h
section
variable {P:Program} {G:List ba} {M:Nat} {dst:Option Tmp} {f:FuncId} {t:Tmp} {args:Array Operand} {c9:Array TypeId} {type:TypeId} {pos':String} {after:Array Edge} {guard:Option (Nat×Bool)} {env:List (Nat×D)} {cs:List ij} {R:Rows}
theorem MB{x:ba}(dr:bj P x)(hf:x.f=f)(hy:f<YB)(ht:look env t=.gb f cs){ks:List Nat}{val:D}{R':Rows}
 (h:Br P ⟨some 0,.call ⟨.value (.func f),Ec args cs.length,c9⟩,type,pos',after,guard⟩ (bo (FD (jk args.toList) cs++env)) R ks val R'):Br P ⟨dst,.call ⟨.value (.tmp t),args,c9⟩,type,pos',after,guard⟩ (bo env) R ks val R':=by
 intro c w a hm hb hR eg K Q hK
 have h1:=eg (.tmp t) (by simp[Op.operands,Call.operands])
 simp only[bo,ht]at h1
 obtain⟨us,⟨_,hv⟩|⟨pk,_⟩,hc⟩:=h1
 rotate_left
 ·exact absurd hy (Nat.not_lt.2 pk)
 have hl:us.length=cs.length:=hc.length
 refine zaz (λaz w=>by rw[<-hf];exact dr.enters (by rw[hf];exact hy) az w) hv ?_
 rw[hl]
 refine h c w _ hm hb hR (λy hy=>?_) _ _ λv w' c' hn jQ hr=>?_
 ·have ft:∀x∈args.toList,Rep c w (bo env x) (a.eval x):=λy hy=>eg y (by simp[Op.operands,Call.operands];exact .inr (by simpa using hy))
  simp only[Op.operands,Call.operands]at hy
  rcases Array.mem_append.1 hy with hy|hy
  ·simp at hy;subst hy;exact JQ _
  ·exact Bq ft hc y (by simpa using hy)
 ·have cj:0<(sY a (jk args.toList) us).tmps.size:=by have:=Vt (l:=args.toList);simp[sY];omega
  have:((sY a (jk args.toList) us).put (some 0) v).tmps.getD 0 undef=v:=by
   simp only[Act.put]
   simp[aP,cj]
  show K (a.put dst (((sY a (jk args.toList) us).put (some 0) v).tmps.getD 0 undef)) w'
  rw[this]
  exact hK v w' c' hn jQ hr
theorem Zlv{K:D->Rows->Prop}(hG:jO P G)(lz:oJ G f=none)(ht:look env t=.gb f cs)(h:JY G f (args.toList.map (bo env)++cs.map ij.d) R K):∃val R',K val R'/\Br P ⟨dst,.call ⟨.value (.tmp t),args,c9⟩,type,pos',after,guard⟩ (bo env) R [] val R':=by
 rw[<-Z7e]at h
 obtain⟨val,R',x,h1,h2,h3,_⟩:=Vv (dst:=some 0) (c9:=c9) (type:=type) (pos':=pos') (after:=after) (guard:=guard) hG lz h
 obtain⟨dr,hf⟩:=FE hG h2
 have uU:x.gone=none:=by simpa[oJ,h2]using lz
 exact⟨val,R',h1,MB dr hf (by rw[<-hf];exact dr.real uU) ht h3.toK⟩
theorem qb{k:Nat}{K:List Nat->D->Rows->Prop}(hG:jO P G)(oK:(bJ f YB||Nat.beq args.size 1)=true)(lz:oJ G f=some k)(ht:look env t=.gb f cs)(h:HJ G M f k (args.toList.map (bo env)++cs.map ij.d) R K):∃ks val R',K ks val R'/\(∀j,bq j ks=true->M<=j)/\Br P ⟨dst,.call ⟨.value (.tmp t),args,c9⟩,type,pos',after,guard⟩ (bo env) R ks val R':=by
 rw[<-Z7e]at h
 by_cases hy:f<YB
 ·obtain⟨ks,val,R',x,h1,h2,h3,h4,h5⟩:=Zlg hG hy (dst:=some 0) (c9:=c9) (type:=type) (pos':=pos') (after:=after) (guard:=guard) lz h
  obtain⟨dr,hf⟩:=FE hG h2
  exact⟨ks,val,R',h1,h4,MB dr hf hy ht h5⟩
 ·obtain⟨ks,val,R',x,h1,h2,h3,h4,h5⟩:=Vw hG lz h
  refine⟨ks,val,R',h1,h4,λc w a hm hb hR eg K' Q pJ=>?_⟩
  have h1:=eg (.tmp t) (by simp[Op.operands,Call.operands])
  simp only[bo,ht]at h1
  obtain⟨us,⟨cj,_⟩|⟨pk,l,rec,hv,hI,hl,mw⟩,hc⟩:=h1
  ·exact absurd cj hy
  have ft:∀x∈args.toList,Rep c w (bo env x) (a.eval x):=λy hy=>eg y (by simp[Op.operands,Call.operands];exact .inr (by simpa using hy))
  have hlen:us.length=cs.length:=hc.length
  have iQ:(args.toList.map a.eval).length=1:=by
   rcases Bool.or_eq_true_iff.1 oK with e|e
   ·exact absurd (lE e) hy
   ·simpa using bE e
  have fp:(args.toList.map a.eval).length=rec.params.size:=by
   obtain⟨_,_,y,_,hp,_,_,_,h1,_⟩:=mw
   rw[hp,h1];exact iQ
  exact xE hv hl fp ((h5 c w (sY a (jk args.toList) us).eval hm hb hR (λy hy=>Bq ft hc y hy) (λv w'=>K' (a.put dst v) w') λv w' c'=>pJ v w' c').2 (Nat.le_of_not_lt hy) l rec (args.toList.map a.eval) us (by rw[<-hlen,Qxg]) hI hl mw iQ)
end
def pf(P:Program)(G:List ba)(M:Nat)(o:Oper)(ev:Operand->D)(R:Rows)(ks:List Nat)(val:D)(R':Rows):Prop:=
 if rJ G o.op=true then(∀k,bq k ks=true->M<=k)/\Br P o ev R ks val R' else ks=[]/\pn P o ev R val R'
theorem pf.toK{P:Program}{G:List ba}{M:Nat}{o:Oper}{ev:Operand->D}{R:Rows}{ks:List Nat}{val:D}{R':Rows}(h:pf P G M o ev R ks val R'):(∀k,bq k ks=true->M<=k)/\Br P o ev R ks val R':=by
 unfold pf at h
 split at h
 ·exact h
 ·obtain⟨rfl,h⟩:=h
  exact⟨λk hk=>by simp[bq]at hk,h.toW.toK⟩
theorem Bs{P:Program}{G:List ba}{M:Nat}{o:Oper}{ev:Operand->D}{R:Rows}{val:D}{R':Rows}(hw:rJ G o.op=false)(h:pn P o ev R val R'):pf P G M o ev R [] val R':=by
 unfold pf;rw[hw];exact⟨rfl,h⟩
theorem Bt{P:Program}{G:List ba}{M:Nat}{o:Oper}{ev:Operand->D}{R:Rows}{ks:List Nat}{val:D}{R':Rows}(hw:rJ G o.op=true)(hk:∀k,bq k ks=true->M<=k)(h:Br P o ev R ks val R'):pf P G M o ev R ks val R':=by
 unfold pf;rw[if_pos hw];exact⟨hk,h⟩
def nb(P:Program)(G:List ba)(M:Nat)(ops:Array Oper)(o:Oper)(env:List (Nat×D))(R:Rows)(ks:List Nat)(val:D)(R':Rows):Prop:=
 match o.guard with
 |none=>pf P G M o (bo env) R ks val R'
 |some (j,want)=>∃g,(ops[j]?).bind (·.dst)=some g/\((∃b,look env g=.bool b/\(if b=want then pf P G M o (bo env) R ks val R' else ks=[]/\val=.dt []/\R'=R))\/(look env g=.dt []/\ks=[]/\val=.dt []/\R'=R))
theorem oL{N:Nat}{st:St}{dst:Option Tmp}{d:D}{R:Rows}{K:St->Prop}(h:st.put N dst d R K):(∀t,dst=some t->t<N)/\K ⟨rI st.env dst d,R⟩:=by
 cases dst with
 |none=>exact⟨λt h=>(by cases h),h⟩
 |some t=>
  simp only[St.put,c7]at h
  refine⟨λs hs=>?_,h.2⟩
  cases hs
  exact lE h.1
theorem zb(d:D):d.kill []=d:=by
 cases d with
 |agg cs=>show D.agg (D.j9 [] cs)=_;rw[Vx]
 |gb f cs=>exact Vy (.gb f cs)
 |_=>rfl
theorem Zeg:∀{ds:List D},D.pq [] ds=ds
 |[]=>rfl
 |d::l=>by simp[D.pq,zb,Zeg (ds:=l)]
theorem yb(d:D):d.gd []=d:=by
 cases d with
 |dt ds=>show D.dt (D.pq [] ds)=_;rw[Zeg]
 |agg cs=>exact zb (.agg cs)
 |gb f cs=>exact Vy (.gb f cs)
 |_=>rfl
theorem oH{env:List (Nat×D)}{t:Nat}:look (rH [] env) t=look env t:=by rw[Bu,yb]
theorem Zla{P:Program}{T:ff}(hT:jt P T){G:List ba}(hG:jO P G){N M:Nat}{o:Oper}{st:St}{K:St->Prop}(h:lB T G N M o st K):
 ∃ks val R' iv,(∀t,look iv t=look (rH ks st.env) t)/\(∀t,o.dst=some t->t<N)/\K ⟨rI iv o.dst val,R'⟩/\pf P G M o (bo st.env) st.rows ks val R':=by
 have plain:(rJ G o.op=FG o.op)->(gu T o.op (bo st.env) st.rows λd R=>st.put N o.dst d R K)->∃ks val R' iv,(∀t,look iv t=look (rH ks st.env) t)/\(∀t,o.dst=some t->t<N)/\K ⟨rI iv o.dst val,R'⟩/\pf P G M o (bo st.env) st.rows ks val R':=by
  intro hw h
  obtain⟨val,R',hK,hO⟩:=MC hT o _ _ _ h
  obtain⟨h1,h2⟩:=oL hK
  refine⟨[],_,_,st.env,λt=>oH.symm,h1,h2,?_⟩
  split at hO
  ·rename_i hs
   exact Bt (hw.trans hs) (λk hk=>by simp[bq]at hk) hO.toK
  ·rename_i hs
   exact Bs (by rw[hw];simpa using hs) hO
 unfold lB at h
 split at h
 ·rename_i cc x y ho
  split at h
  ·rename_i b hb
   have hw:rJ G o.op=false:=by rw[ho];rfl
   have go:∀z,z∈o.op.operands->(∀c w (a:Act),Rep c w (bo st.env cc) (a.eval cc)->(execOp a.eval o).run P w=.ok (.value (a.eval z)) w)->(bo st.env z).force (λd=>st.put N o.dst d st.rows K)->
    ∃ks val R' iv,(∀t,look iv t=look (rH ks st.env) t)/\(∀t,o.dst=some t->t<N)/\K ⟨rI iv o.dst val,R'⟩/\pf P G M o (bo st.env) st.rows ks val R':=by
    intro z hz gz h
    rw[D.cf]at h
    obtain⟨h1,h2⟩:=oL h
    exact⟨[],_,_,st.env,λt=>oH.symm,h1,h2,Bs hw (my λc w a hm hA eg=>⟨_,gz c w a (eg cc (by rw[ho];simp[Op.operands])),eg z hz⟩)⟩
   cases b with
   |true=>
    refine go x (by rw[ho];simp[Op.operands]) (λc w a hc=>?_) h
    rw[hb]at hc
    simp only[execOp,ho,Rep.bool.1 hc,asBool,Sem.run_bind,Sem.run_pure,Result.andThen_ok,if_true]
   |false=>
    refine go y (by rw[ho];simp[Op.operands]) (λc w a hc=>?_) h
    rw[hb]at hc
    simp only[execOp,ho,Rep.bool.1 hc,asBool,Sem.run_bind,Sem.run_pure,Result.andThen_ok,aN,if_false]
  ·exact h.elim
 ·rename_i f args c9 ho
  obtain⟨dst,op,type,pos,after,guard⟩:=o
  simp only at ho
  subst ho
  split at h
  ·rename_i lz
   split at h
   rotate_left
   ·rename_i Dg
    obtain⟨ks,val,R',x,hK,hx,hM,hO⟩:=xQ (dst:=dst) (type:=type) (pos':=pos) (after:=after) (guard:=guard) (c9:=c9) hG lz h
    rw[HK]at hK
    obtain⟨h1,h2⟩:=oL hK
    refine⟨ks,_,_,_,λt=>rfl,h1,h2,Bt ?_ hM hO⟩
    have Dg:x.oM=true:=by simpa[Z1,hx]using Dg
    cases nc:x.refs with
    |nil=>simp only[rJ,hx,nc,Dg]
    |cons b bs=>simp only[rJ,hx,nc]
   rename_i Dg
   have HL:∀x,oA G f=some x->x.oM=false:=λx hx=>by simpa[Z1,hx]using Dg
   obtain⟨val,R',x,hK,hx,hO,hN⟩:=Vv (dst:=dst) (type:=type) (pos':=pos) (after:=after) (guard:=guard) (c9:=c9) hG lz h
   obtain⟨h1,h2⟩:=oL hK
   refine⟨[],_,_,st.env,λt=>oH.symm,h1,h2,?_⟩
   cases hr:x.refs with
   |nil=>exact Bs (by simp only[rJ,hx,hr,HL x hx]) (hN hr)
   |cons b bs=>exact Bt (by simp only[rJ,hx,hr]) (λk hk=>by simp[bq]at hk) hO.toK
  ·rename_i k lz
   obtain⟨hy,h⟩:=c7.1 h
   obtain⟨ks,val,R',x,hK,hx,hr,hM,hO⟩:=Zlg hG (lE hy) (dst:=dst) (type:=type) (pos':=pos) (after:=after) (guard:=guard) (c9:=c9) lz h
   rw[HK]at hK
   obtain⟨h1,h2⟩:=oL hK
   refine⟨ks,_,_,_,λt=>rfl,h1,h2,Bt ?_ hM hO⟩
   cases nc:x.refs with
   |nil=>exact(hr nc).elim
   |cons b bs=>simp only[rJ,hx,nc]
 ·rename_i t args c9 ho
  obtain⟨dst,op,type,pos,after,guard⟩:=o
  simp only at ho
  subst ho
  split at h
  ·rename_i f cs ht
   split at h
   ·rename_i lz
    split at h
    ·obtain⟨val,R',hK,hO⟩:=Zlv (dst:=dst) (type:=type) (pos':=pos) (after:=after) (guard:=guard) (c9:=c9) hG lz ht h
     obtain⟨h1,h2⟩:=oL hK
     exact⟨[],_,_,st.env,λt=>oH.symm,h1,h2,Bt rfl (λk hk=>by simp[bq]at hk) hO⟩
    ·exact h.elim
   ·rename_i k lz
    obtain⟨oK,h⟩:=c7.1 h
    obtain⟨ks,val,R',hK,hM,hO⟩:=qb (dst:=dst) (type:=type) (pos':=pos) (after:=after) (guard:=guard) (c9:=c9) hG oK lz ht h
    rw[HK]at hK
    obtain⟨h1,h2⟩:=oL hK
    exact⟨ks,_,_,_,λt=>rfl,h1,h2,Bt rfl hM hO⟩
  ·exact h.elim
 ·rename_i args c9 ho
  obtain⟨dst,op,type,pos,after,guard⟩:=o
  simp only at ho
  subst ho
  split at h
  ·rename_i x y t tx hx ht
   have ft:args= #[x,y]:=by rw[<-bS (xs:=args),hx]
   have tN:c9= #[t,tx]:=by rw[<-bS (xs:=c9),ht]
   subst ft;subst tN
   obtain⟨ks,R',hK,hM,hr⟩:=Zkj (ty:=type) hT h
   rw[HK]at hK
   obtain⟨h1,h2⟩:=oL hK
   refine⟨ks,_,_,_,λt=>rfl,h1,h2,Bt rfl hM λc w a hm hb hR eg K' Q pJ=>?_⟩
   obtain⟨v',w',c',gz,hn,jQ,hv⟩:=hr c w _ _ hm hb hR (eg x (by simp[Op.operands,Call.operands])) (eg y (by simp[Op.operands,Call.operands]))
   refine FH ?_ (pJ v' w' c' hn jQ hv)
   simp only[execOp,resolve,Sem.run_bind,Sem.run_pure,Result.andThen_ok,invoke,builtin]
   have:(#[x,y]:Array Operand).map a.eval= #[a.eval x,a.eval y]:=by simp
   rw[this,gz];rfl
  ·exact h.elim
 ·rename_i args c9 ho
  obtain⟨dst,op,type,pos,after,guard⟩:=o
  simp only at ho
  subst ho
  split at h
  ·rename_i x y t tx hx ht
   have ft:args= #[x,y]:=by rw[<-bS (xs:=args),hx]
   have tN:c9= #[t,tx]:=by rw[<-bS (xs:=c9),ht]
   subst ft;subst tN
   obtain⟨val,R',hK,hr⟩:=ya (ty:=type) hT h
   obtain⟨h1,h2⟩:=oL hK
   refine⟨[],_,_,st.env,λt=>oH.symm,h1,h2,Bt rfl (λk hk=>by simp[bq]at hk) (Ee.toK λc w a hm hb hR eg K' Q pJ=>?_)⟩
   obtain⟨v',w',c',gz,hn,jQ,hv⟩:=hr c w _ _ hm hR (eg x (by simp[Op.operands,Call.operands])) (eg y (by simp[Op.operands,Call.operands]))
   refine FH ?_ (pJ v' w' c' hn jQ hv)
   simp only[execOp,resolve,Sem.run_bind,Sem.run_pure,Result.andThen_ok,invoke,builtin]
   have:(#[x,y]:Array Operand).map a.eval= #[a.eval x,a.eval y]:=by simp
   rw[this,gz];rfl
  ·exact h.elim
 ·rename_i args c9 ho
  split at h
  ·rename_i x y hx
   obtain⟨val,hK,hr⟩:=Zjw h
   obtain⟨h1,h2⟩:=oL hK
   refine⟨[],_,_,st.env,λt=>oH.symm,h1,h2,Bs (by rw[ho];rfl) (my λc w a hm hA eg=>?_)⟩
   have ft:args= #[x,y]:=by rw[<-bS (xs:=args),hx]
   subst ft
   obtain⟨u,hu,hv⟩:=hr P c w _ _ (eg x (by rw[ho];simp[Op.operands,Call.operands])) (eg y (by rw[ho];simp[Op.operands,Call.operands]))
   refine⟨u,?_,hv⟩
   simp only[execOp,ho,resolve,Sem.run_bind,Sem.run_pure,Result.andThen_ok,invoke,builtin]
   have:(#[x,y]:Array Operand).map a.eval= #[a.eval x,a.eval y]:=by simp
   rw[this]
   have hu:=hu.1 rfl c9 o.type
   rw[hu];rfl
  ·exact h.elim
 ·rename_i args c9 ho
  split at h
  ·rename_i x y hx
   obtain⟨val,hK,hr⟩:=Zjw h
   obtain⟨h1,h2⟩:=oL hK
   refine⟨[],_,_,st.env,λt=>oH.symm,h1,h2,Bs (by rw[ho];rfl) (my λc w a hm hA eg=>?_)⟩
   have ft:args= #[x,y]:=by rw[<-bS (xs:=args),hx]
   subst ft
   obtain⟨u,hu,hv⟩:=hr P c w _ _ (eg x (by rw[ho];simp[Op.operands,Call.operands])) (eg y (by rw[ho];simp[Op.operands,Call.operands]))
   refine⟨u,?_,hv⟩
   simp only[execOp,ho,resolve,Sem.run_bind,Sem.run_pure,Result.andThen_ok,invoke,builtin]
   have:(#[x,y]:Array Operand).map a.eval= #[a.eval x,a.eval y]:=by simp
   rw[this]
   have hu:=hu.2 rfl c9 o.type
   rw[hu];rfl
  ·exact h.elim
 ·rename_i s d x ho
  split at h
  ·rename_i e _ _ _ _ _ _ hs
   obtain⟨val,hK,hr⟩:=qE hT hs h
   obtain⟨h1,h2⟩:=oL hK
   refine⟨[],_,_,st.env,λt=>oH.symm,h1,h2,Bs (by rw[ho];rfl) (my λc w a hm hA eg=>?_)⟩
   obtain⟨u,hu,hv⟩:=hr c w _ hm hA (eg x (by rw[ho];simp[Op.operands]))
   refine⟨u,?_,hv⟩
   simp only[execOp,ho]
   rw[Sem.run_bind,hu];rfl
  ·rw[<-ho]at h
   exact plain (by rw[ho];rfl) h
 ·rename_i op t x y ty ho
  split at h
  ·rename_i s es fr hx hy
   obtain⟨hK,hr⟩:=vD hT h
   obtain⟨h1,h2⟩:=oL hK
   refine⟨[],_,_,st.env,λt=>oH.symm,h1,h2,Bs (by rw[ho];rfl) (my λc w a hm hA eg=>?_)⟩
   have q1:=eg x (by rw[ho];simp[Op.operands])
   have q2:=eg y (by rw[ho];simp[Op.operands])
   rw[hx]at q1;rw[hy]at q2
   obtain⟨u,hu,hv⟩:=hr s fr c w _ _ q1 q2
   refine⟨u,?_,hv⟩
   simp only[execOp,ho]
   rw[Sem.run_bind,hu x y];rfl
  ·rw[<-ho]at h
   exact plain (by rw[ho];rfl) h
 ·rename_i op n1 n2 n9 n3 n4 n5 n6 n7 n8
  refine plain ?_ h
  unfold rJ
  split
  ·rename_i rj;rw[rj];rfl
  ·rename_i rj;exact(n2 _ _ _ rj).elim
  ·rename_i rj;exact(n9 _ _ _ rj).elim
  ·rename_i rj;exact(n3 _ _ rj).elim
  ·rename_i rj;exact(n4 _ _ rj).elim
  ·rename_i m1 m2 m5 m3 m4
   cases rj:o.op<;>first|rfl|exact(m1 _ _ _ rj).elim
theorem RO{st:St}{g:Nat}{b:Bool}(h:look st.env g=.bool b)(t:Nat):look (st.kv (.tmp g) b).env t=look st.env t:=by
 simp only[St.kv,AJ]
 split
 ·rename_i e;subst e;exact h.symm
 ·rfl
theorem Zn0{env lN:List (Nat×D)}(h:∀t,look lN t=look env t):bo lN=bo env:=by
 funext x;cases x<;>first|exact h _|rfl
theorem U8{P:Program}{T:ff}(hT:jt P T){G:List ba}(hG:jO P G){N M:Nat}{ops:Array Oper}{o:Oper}{l:List Oper}{st:St}{K:St->Prop}(h:lF T G N M ops (o::l) st K):
 ∃ks val R' iv,(∀t,look iv t=look (rH ks st.env) t)/\(∀t,o.dst=some t->t<N)/\nb P G M ops o st.env st.rows ks val R'/\lF T G N M ops l ⟨rI iv o.dst val,R'⟩ K:=by
 simp only[lF]at h
 split at h
 ·rename_i hg
  obtain⟨ks,val,R',iv,h0,h1,h2,h3⟩:=Zla hT hG h
  exact⟨ks,val,R',iv,h0,h1,by unfold nb;rw[hg];exact h3,h2⟩
 ·rename_i j want hg
  split at h
  ·rename_i g hd
   split at h
   ·rename_i b hb
    have yes:∀b',b'=b->lB T G N M o (st.kv (.tmp g) b') (λst=>lF T G N M ops l st K)->b=want->∃ks val R' iv,(∀t,look iv t=look (rH ks st.env) t)/\(∀t,o.dst=some t->t<N)/\nb P G M ops o st.env st.rows ks val R'/\lF T G N M ops l ⟨rI iv o.dst val,R'⟩ K:=by
     intro b' e hh hw
     subst e
     obtain⟨ks,val,R',iv,h0,h1,h2,h3⟩:=Zla hT hG hh
     rw[Zn0 (RO hb)]at h3
     refine⟨ks,val,R',iv,λt=>by rw[h0,Bu,Bu,RO hb],h1,?_,h2⟩
     unfold nb;rw[hg]
     exact⟨g,hd,.inl ⟨_,hb,by rw[if_pos hw];exact h3⟩⟩
    have no:∀b',b'=b->(st.kv (.tmp g) b').put N o.dst (.dt []) st.rows (λst=>lF T G N M ops l st K)->b≠want->∃ks val R' iv,(∀t,look iv t=look (rH ks st.env) t)/\(∀t,o.dst=some t->t<N)/\nb P G M ops o st.env st.rows ks val R'/\lF T G N M ops l ⟨rI iv o.dst val,R'⟩ K:=by
     intro b' e hh hw
     subst e
     obtain⟨h1,h2⟩:=oL hh
     refine⟨[],_,_,_,λt=>by rw[oH,RO hb],h1,?_,h2⟩
     unfold nb;rw[hg]
     exact⟨g,hd,.inl ⟨_,hb,by rw[if_neg hw];exact⟨rfl,rfl,rfl⟩⟩⟩
    cases b<;>cases want<;>simp only[Dh]at h
    ·exact yes _ rfl h rfl
    ·exact no _ rfl h (by simp)
    ·exact no _ rfl h (by simp)
    ·exact yes _ rfl h rfl
   ·rename_i hb
    obtain⟨h1,h2⟩:=oL h
    refine⟨[],_,_,st.env,λt=>oH.symm,h1,?_,h2⟩
    unfold nb;rw[hg]
    exact⟨g,hd,.inr ⟨hb,rfl,rfl,rfl⟩⟩
   ·exact h.elim
  ·exact h.elim
theorem RD{ops:Array Oper}{o:Oper}{c:Ctx}{w:World}{a:Act}{j g:Nat}{want:Bool}(hg:o.guard=some (j,want))(hd:(ops[j]?).bind (·.dst)=some g)(h:Rep c w (.dt []) (a.tmps.getD g undef)):
 Region.wanted o (yielded ops a.tmps)=false:=by
 obtain⟨vs,hv,Bv⟩:=h
 have hy:yielded ops a.tmps j=none:=by
  simp only[yielded,hd,aL]
  cases hx:a.tmps[g]? with
  |none=>rfl
  |some v=>
   have:a.tmps.getD g undef=v:=by simp[hx]
   rw[this]at hv
   rw[hv]
 unfold Region.wanted
 rw[hg]
 simp only[hy]
 rfl
theorem RC(c:Ctx)(w:World):Rep c w (.dt []) undef:=⟨[],rfl,trivial⟩
theorem RE{ops:Array Oper}{o:Oper}{c:Ctx}{w:World}{a:Act}{j g:Nat}{want b:Bool}(hg:o.guard=some (j,want))(hd:(ops[j]?).bind (·.dst)=some g)(h:Rep c w (.bool b) (a.tmps.getD g undef)):
 Region.wanted o (yielded ops a.tmps)=decide (b=want):=by
 have hv:=Rep.bool.1 h
 have ht:a.tmps[g]?=some (.bool b):=by
  cases hx:a.tmps[g]? with
  |none=>simp[hx,undef]at hv
  |some v=>simp[hx]at hv;rw[hv]
 unfold Region.wanted
 simp only[hg,yielded,hd,aL,ht]
 cases b<;>cases want<;>rfl
def wpOp(P:Program)(ops:Array Oper)(Q:Exit->Act->World->Prop)(i:Nat)(K:Act->World->Prop)(a:Act)(w:World):Prop:=
 match ops[i]? with
 |none=>K a w
 |some o=>if Region.wanted o (yielded ops a.tmps)then o.mN P a w K Q else K (a.put o.dst undef) w
def JZ(P:Program)(ops:Array Oper)(Q:Exit->Act->World->Prop):List Nat->Act->World->Prop
 |[],a,w=>Q .normal a w
 |i::rest,a,w=>wpOp P ops Q i (JZ P ops Q rest) a w
theorem Z81{P:Program}{ops:Array Oper}{Q:Exit->Act->World->Prop}(i:Nat)(rest:List Nat)(a:Act)(w:World):JZ P ops Q (i::rest) a w=wpOp P ops Q i (JZ P ops Q rest) a w:=rfl
def HE(P:Program)(md:Region.Mode)(ops:Array Oper)(Q:Exit->Act->World->Prop):Nat->Array Bool->Act->World->Prop
 |0,listed,a,w=>Region.ready md ops listed=[]/\Q .normal a w
 |fuel+1,listed,a,w=>
  (Region.ready md ops listed=[]->Q .normal a w)/\
  ∀i∈Region.ready md ops listed,wpOp P ops Q i (HE P md ops Q fuel (listed.setIfInBounds i true)) a w
abbrev AM(ro:Option Nat):Fence:={Fence.wide with round:=ro}
theorem vV{P:Program}{ro:Option Nat}{o:Oper}{a:Act}{w:World}{K:Act->World->Prop}{Q Q':Exit->Act->World->Prop}(h:o.mN P a w K Q):o.wpIn (AM ro) 0 P a w K Q':=by
 refine⟨λ_ _=>trivial,?_⟩
 have hd:∀c,o.op≠.defer c:=by
  intro c hc
  unfold Oper.mN at h
  simp only[execOp,hc,Sem.run_bind]at h
  revert h
  cases(resolve a.eval c o.type).run P w with
  |halt _ _=>exactλh=>h
  |ok d w'=>exactλh=>h
 rw[Oper.semAt_eq _ _ _ hd]
 unfold Oper.mN at h
 revert h
 generalize(execOp a.eval o).run P w=r
 intro h
 cases r with
 |halt _ _=>exact h.elim
 |ok n w'=>
  cases n with
  |value v=>exact h
  |skip=>exact h
  |enter f args=>
   refine⟨λe=>(by cases e),?_⟩
   refine CallsIn.mono (F:=Fence.wide) (callsIn_wide.2 h) λe w' ⟨v,he,hk⟩=>?_
   subst he;exact hk
  |round l f tmps assign body=>
   refine⟨λe=>(by cases e),?_⟩
   refine RoundIn.mono (F:=Fence.wide) h λe w' ⟨v,he,hk⟩=>?_
   subst he;exact hk
  |_=>exact h.elim
theorem RP{P:Program}{ro:Option Nat}{ops:Array Oper}{Q:Exit->Act->World->Prop}:∀{l:List Nat} {a:Act} {w:World},JZ P ops Q l a w->wpOpsIn (AM ro) 0 P ops Q l a w
 |[],_,_,h=>h
 |i ::l,a,w,h=>by
  rw[Z81]at h
  unfold wpOp at h
  unfold wpOpsIn
  split
  ·rename_i ho;simp only[ho]at h;exact RP h
  ·rename_i o ho
   simp only[ho]at h
   split
   ·rename_i hw;rw[if_pos hw]at h;exact vV (Q:=Q) (Vz (Q':=Q) (λa w h=>RP h) h)
   ·rename_i hw;rw[if_neg hw]at h;exact⟨λ_ _=>trivial,RP h⟩
theorem RQ{P:Program}{ro:Option Nat}{md:Region.Mode}{ops:Array Oper}{Q:Exit->Act->World->Prop}:∀{n:Nat} {listed:Array Bool} {a:Act} {w:World},HE P md ops Q n listed a w->wpAnyIn (AM ro) 0 P md ops Q n listed a w
 |0,_,_,_,h=>h
 |n +1,listed,a,w,h=>by
  refine⟨h.1,λi hi=>?_⟩
  have h:=h.2 i hi
  unfold wpOp at h
  unfold wpOpIn
  split
  ·rename_i ho;simp only[ho]at h;exact RQ h
  ·rename_i o ho
   simp only[ho]at h
   split
   ·rename_i hw;rw[if_pos hw]at h;exact vV (Q:=Q) (Vz (Q':=Q) (λa w h=>RQ h) h)
   ·rename_i hw;rw[if_neg hw]at h;exact⟨λ_ _=>trivial,RQ h⟩
theorem Zcd{P:Program}{ro:Option Nat}{id:Nat}{ops:Array Oper}{Q:Exit->Act->World->Prop}{a:Act}{w:World}(h:JZ P ops Q (List.range ops.size) a w):(Code.region id ops false).wpIn (AM ro) 0 P Q a w:=wpIn_region (RP h)
theorem Qu8{P:Program}{ro:Option Nat}{ops:Array Oper}{Q:Exit->Act->World->Prop}{id:Nat}{a:Act}{w:World}(hm:P.follows .mixedOrders=true)
 (h:HE P .any ops Q ops.size (Array.replicate ops.size false) a {w with drawn:=w.drawn+1}):(Code.region id ops true).wpIn (AM ro) 0 P Q a w:=wpIn_region_any hm (RQ h)
theorem qW{P:Program}{G:List ba}{ops:Array Oper}{N M:Nat}{c0:Ctx}{w0:World}{c:Ctx}{w:World}{st:St}{a:Act}{i:Nat}{o:Oper}{ks:List Nat}{val:D}{R':Rows}{iv:List (Nat×D)}(hi:ops[i]?=some o)
 (hs:fk N M c0 w0 c w st a) (h1:∀t,look iv t=look (rH ks st.env) t) (hd:∀t,o.dst=some t->t<N) (hG:nb P G M ops o st.env st.rows ks val R') {K:Act->World->Prop} {Q:Exit->Act->World->Prop}
 (hK:∀a' w' c',fk N M c0 w0 c' w' ⟨rI iv o.dst val,R'⟩ a'->K a' w'):wpOp P ops Q i K a w:=by
 have fin:(∀k,bq k ks=true->M<=k)->∀(v:Value) (w':World) (c':Ctx),jA ks c w c' w'->(∀r,c'.R r=R'.getD r none)->Rep c' w' val v->K (a.put o.dst v) w':=λhM v w' c' hn hR hv=>by
  refine hK _ _ c' ⟨hn.mem,hR,?_,?_,?_,hs.fw,hs.gk,hs.reach.step hM hs.gk hn⟩
  ·exact Z6a hs.size hd (λt=>by rw[h1,Bu];exact wQ hn.bz (VA (hs.env t))) hv
  ·cases ho:o.dst<;>simp[Act.put]<;>exact hs.size
  ·exact lG.put (hs.defers.step hs.mem hn.fr)
 have run:pf P G M o (bo st.env) st.rows ks val R'->o.mN P a w K Q:=λhX=>hX.toK.2 c w a hs.mem hs.base hs.rows (λx _=>Mz hs.env x) K Q (fin hX.toK.1)
 have skip:ks=[]->val=.dt []->R'=st.rows->K (a.put o.dst undef) w:=λe0 e1 e2=>by
  refine hK _ _ c ⟨hs.mem,by rw[e2];exact hs.rows,?_,?_,?_,hs.fw,hs.gk,hs.reach⟩
  ·exact Z6a hs.size hd (λt=>by rw[h1,e0,oH];exact hs.env t) (by rw[e1];exact RC _ _)
  ·cases ho:o.dst<;>simp[Act.put]<;>exact hs.size
  ·exact lG.put hs.defers
 unfold wpOp
 simp only[hi]
 unfold nb at hG
 cases hg:o.guard with
 |none=>
  simp only[hg]at hG
  have hw:Region.wanted o (yielded ops a.tmps)=true:=by simp[Region.wanted,hg]
  rw[if_pos hw]
  exact run hG
 |some jw=>
  obtain⟨j,want⟩:=jw
  simp only[hg]at hG
  obtain⟨g,h2,⟨b,h3,h4⟩|⟨h3,e0,e1,e2⟩⟩:=hG
  rotate_left
  ·have hr:=hs.env g
   rw[h3]at hr
   rw[if_neg (by rw[RD (o:=o) hg h2 hr];simp)]
   exact skip e0 e1 e2
  have hr:=hs.env g
  rw[h3]at hr
  have hw:=RE (o:=o) hg h2 hr
  by_cases e:b=want
  ·rw[if_pos e]at h4
   rw[if_pos (by rw[hw];simpa using e)]
   exact run h4
  ·rw[if_neg e]at h4
   rw[if_neg (by rw[hw];simpa using e)]
   exact skip h4.1 h4.2.1 h4.2.2
theorem xW{P:Program}{T:ff}(hT:jt P T){G:List ba}(hG:jO P G){N M:Nat}{ops:Array Oper}{c0:Ctx}{w0:World}{K:St->Prop}{Q:Exit->Act->World->Prop}(hQ:∀st c w a,K st->fk N M c0 w0 c w st a->Q .normal a w):
 ∀(l:List Oper) (k:Nat) (st:St) (c:Ctx) (w:World) (a:Act),ops.toList.drop k=l->lF T G N M ops l st K->fk N M c0 w0 c w st a->JZ P ops Q (bK k l.length) a w
 |[],k,st,c,w,a,_,h,hs=>hQ st c w a h hs
 |o ::l,k,st,c,w,a,hk,h,hs=>by
  have cj:k<ops.toList.length:=by
   by_cases cj:k<ops.toList.length
   ·exact cj
   ·rw[List.drop_eq_nil_of_le (by omega)]at hk;cases hk
  rw[List.drop_eq_getElem_cons cj]at hk
  have ho:ops[k]?=some o:=by
   have:=(List.cons.inj hk).1
   rw[<-this]
   simp at cj
   simp[cj]
  obtain⟨ks,val,R',iv,h1,h2,h3,h4⟩:=U8 hT hG h
  simp only[List.length_cons,List.range'_succ]
  rw[Z81]
  exact qW ho hs h1 h2 h3 λa' w' c' jd=>xW hT hG hQ l (k+1) _ c' w' a' (List.cons.inj hk).2 h4 jd
def mu:Exit->Option Ex
 |.normal=>some .normal
 |.exit i=>some (.exit i)
 |.ret=>some .ret
 |_=>none
def tz(ro:Option Nat)(P:Program)(N M:Nat)(code:Code)(st:St)(Q:Ex->St->Prop):Prop:=
 ∀ (c0:Ctx) (w0:World) (c:Ctx) (w:World) (a:Act),fk N M c0 w0 c w st a->
  code.wpIn (AM ro) 0 P (λe a' w'=>∃ex jn c',mu e=some ex/\Q ex jn/\fk N M c0 w0 c' w' jn a') a w
abbrev Tr:=tz none
def Ctx.oM(c:Ctx)(R:Rows)(ks:List Nat):Ctx:=
 {c with R:=λr=>if bq r ks=true then none else(c.R r).map (Row.lO R ks),I:=λb=>c.I b\/∃r row,bq r ks=true/\c.R r=some row/\¬c.V r/\c.ρ r=b}
section
variable {c:Ctx} {w:World} {R:Rows} {ks:List Nat}
theorem Zcl(R:Rows)(ks:List Nat)(row:Row):(row.lO R ks).box=row.box/\(row.lO R ks).ty=row.ty/\(row.lO R ks).sz=row.sz/\(row.lO R ks).es.l.length=row.es.l.length:=by
 unfold Row.lO;split<;>exact⟨rfl,rfl,rfl,rfl⟩
theorem Z3g:∀{e:List D},(D.rU R ks e).length=e.length
 |[]=>rfl
 |d::l=>by simp[D.rU,Z3g (e:=l)]
theorem Zc2:jf (c.kill ks) w (c.oM R ks) w:=by
 refine⟨rfl,aO _,λb h=>⟨.inl h,rfl⟩,λr x hx=>?_⟩
 obtain⟨h1,row,h2,rfl⟩:=nT hx
 obtain⟨s1,s2,s3,s4⟩:=Zcl R ks row
 obtain⟨k1,k2,k3,k4⟩:=uT ks row
 refine⟨row.lO R ks,?_,s1.trans k1.symm,s2.trans k2.symm,s3.trans k3.symm,s4.trans k4.symm,rfl,Iff.rfl,λ_ arr h=>⟨arr,h,rfl⟩⟩
 show(if bq r ks=true then none else(c.R r).map (Row.lO R ks))=_
 rw[h1,h2];rfl
theorem Qwv:∀{ds:List D} {arr:Array Value} {off:Nat},ds.all D.plain=true->kA c w ds arr off->nB c.I w ds arr off
 |[],_,_,_,_=>Bo.2 trivial
 |d::ds,arr,off,hp,⟨⟨v,hv,h1⟩,h2⟩=>by
  rw[List.all_cons,aE]at hp
  exact wW.2 ⟨⟨v,hv,cu.plain hp.1 h1⟩,Qwv hp.2 h2⟩
variable (hm:Mem c w) (hA:∀r,c.R r=R.getD r none)
include hm hA
theorem VB{d:D}{v:Value}(h:cu c w d v):cu (c.oM R ks) w (d.Bw R ks) v:=by
 have HM:∀{d:D},cu c w d v->cu (c.oM R ks) w (d.ee ks) v:=λh=>MD Zc2 (RR h)
 cases d with
 |all r=>
  simp only[D.Bw]
  cases hb:bq r ks with
  |false=>
   have:=HM h
   simpa only[D.ee,hb]using this
  |true=>
   obtain⟨row,g1,g2,hv⟩:=h
   have hr:R.getD r none=some row:=by rw[<-hA r];exact g1
   obtain⟨box,ty,sz,es⟩:=row
   simp only at g2
   subst g2
   simp only[hr]
   rcases hv with⟨hV,a,hv,_⟩|⟨hV,cap,arr,hv,g3,g4,g5,g6⟩
   ·have he:=(hm.nQ g1 hV).2.1
    simp only at he
    exact⟨a,0,by rw[he];exact hv,by rw[he];exact aO _,.inl he⟩
   ·obtain⟨iJ,jx,hs,hx⟩:=hm.real g1 hV
    simp only at g5 jx hx
    rw[g5]at jx;cases jx
    simp only[aN,if_false]at hx
    exact⟨_,cap,hv,g3,.inr ⟨_,0,arr,_,_,rfl,.inr ⟨r,_,hb,g1,hV,rfl⟩,by simp,g5,nP (λb hb=>⟨.inl hb,rfl⟩) _ _ _ _ hx⟩⟩
 |ptr r i off=>
  simp only[D.Bw]
  cases hb:bq r ks with
  |false=>
   have:=HM h
   simpa only[D.ee,hb]using this
  |true=>
   obtain⟨row,g1,g2,g3,hv⟩:=h
   have hr:R.getD r none=some row:=by rw[<-hA r];exact g1
   simp only
   split
   ·rename_i ty sz e he
    rw[he]at hr;cases hr
    split
    ·rename_i hp
     obtain⟨arr,ha,hs,hx⟩:=hm.real g1 g2
     simp only[if_true]at hx
     obtain⟨e',k1,k2,k3,k4⟩:=hx
     have k1:[e]=[e']:=by injection k1
     have k1:e=e':=(List.cons.inj k1).1
     subst k1
     refine⟨c.ρ r,0,arr,ty,(0,0),?_,.inr ⟨r,_,hb,g1,g2,rfl⟩,g3,ha,nU.2 ⟨k2,Ziw (λb hb=>⟨.inl hb,rfl⟩) _ _ _ (Qwv hp k4),pr.2 trivial⟩⟩
     rw[hv];simp
    ·rw[hv];rfl
   ·rw[hv];rfl
 |_=>exact HM h
theorem Zjj:∀{ds:List D} {vs:List Value},jh c w ds vs->jh (c.oM R ks) w (D.rU R ks ds) vs
 |[],[],_=>trivial
 |_::_,_::_,h=>⟨VB hm hA h.1,Zjj h.2⟩
 |[],_::_,h=>h.elim
 |_::_,[],h=>h.elim
theorem Zkg{d:D}{v:Value}(h:VRep c w d v):VRep (c.oM R ks) w (d.HN R ks) v:=by
 cases d with
 |agg cs=>obtain⟨vs,hv,hr⟩:=h;exact⟨vs,hv,Zjj hm hA hr⟩
 |_=>
  have:=VB (ks:=ks) hm hA (VRep.toC (λcs e=>by cases e) h)
  exact VRep.Ed this
theorem Zk6:∀{ds:List D} {vs:List Value},jY c w ds vs->jY (c.oM R ks) w (D.HO R ks ds) vs
 |[],[],_=>trivial
 |_::_,_::_,h=>⟨Zkg hm hA h.1,Zk6 h.2⟩
 |[],_::_,h=>h.elim
 |_::_,[],h=>h.elim
theorem zE{d:D}{v:Value}(h:Rep c w d v):Rep (c.oM R ks) w (d.Bx R ks) v:=by
 cases d with
 |dt ds=>obtain⟨vs,hv,hr⟩:=h;exact⟨vs,hv,Zk6 hm hA hr⟩
 |dead=>trivial
 |_=>
  have:=Zkg (ks:=ks) hm hA (Rep.toV (λds e=>by cases e) (λe=>by cases e) h)
  exact Rep.JX this
theorem Zch:∀{ds:List D} {arr:Array Value} {off:Nat},kA c w ds arr off->kA (c.oM R ks) w (D.rU R ks ds) arr off
 |[],_,_,_=>trivial
 |_::_,_,_,⟨⟨v,hv,h1⟩,h2⟩=>⟨⟨v,hv,VB hm hA h1⟩,Zch h2⟩
theorem xaa{r:Nat}{row:Row}(h:Ef c w r row):Ef (c.oM R ks) w r (row.lO R ks):=by
 obtain⟨s1,s2,s3,s4⟩:=Zcl R ks row
 rcases h with⟨h0,h1,h2,h3⟩|⟨h0,arr,ha,hs,hx⟩
 ·refine .inl ⟨h0,s1.trans h1,?_,by rw[s3];exact h3⟩
  rw[h2]at s4;exact List.eq_nil_of_length_eq_zero s4
 ·refine .inr ⟨h0,arr,by rw[s2];exact ha,by rw[s3];exact hs,?_⟩
  rw[s1,s3]
  split
  ·rename_i hb
   simp only[hb,if_true]at hx
   obtain⟨e,k1,k2,k3,k4⟩:=hx
   obtain⟨box,ty,sz,es⟩:=row
   simp only at hb k1 k2 k3 k4
   subst hb;subst k1
   exact⟨D.rU R ks e,rfl,by rw[Z3g];exact k2,k3,Zch hm hA k4⟩
  ·rename_i hb
   simp only[hb,aN,if_false]at hx
   have he:(row.lO R ks).es=row.es:=by
    unfold Row.lO
    split
    ·simp at hb
    ·rfl
   rw[he];exact nP (λb hb=>⟨.inl hb,rfl⟩) _ _ _ _ hx
omit hm hA in
theorem J0{r:Nat}{x:Row}(h:(c.oM R ks).R r=some x):bq r ks=false/\∃row,c.R r=some row/\x=row.lO R ks:=by
 simp only[Ctx.oM]at h
 cases hb:bq r ks with
 |true=>rw[hb]at h;simp at h
 |false=>
  rw[hb]at h
  simp only[aN,if_false,Option.map_eq_some_iff]at h
  obtain⟨row,h1,h2⟩:=h
  exact⟨rfl,row,h1,h2.symm⟩
theorem qab:Mem (c.oM R ks) w:=by
 refine⟨λr x hx=>?_,λr s x y hx hy v1 v2 he=>?_,λb hb=>?_,hm.top,hm.kC.mono λb hb=>⟨.inl hb,rfl⟩⟩
 ·obtain⟨_,row,h1,rfl⟩:=J0 hx
  exact xaa hm hA (hm.row r row h1)
 ·obtain⟨_,row,h1,_⟩:=J0 hx
  obtain⟨_,ao,h2,_⟩:=J0 hy
  exact hm.inj r s row ao h1 h2 v1 v2 he
 ·rcases hb with hb|⟨s,row,h1,h2,h3,rfl⟩
  ·refine⟨(hm.fh b hb).1,λr x hx v=>?_⟩
   obtain⟨_,row,h1,_⟩:=J0 hx
   exact(hm.fh b hb).2 r row h1 v
  ·refine⟨hm.lt h2 h3,λr x hx v e=>?_⟩
   obtain⟨h4,ao,h5,_⟩:=J0 hx
   have:=hm.inj r s ao row h5 h2 v h3 e
   rw[this,h1]at h4;cases h4
end
theorem Z69{R0:Rows}{ks:List Nat}:∀{R:Rows} {i r:Nat},(J1 R0 ks R i).getD r none=if bq (i+r) ks=true then none else(R.getD r none).map (Row.lO R0 ks)
 |[],i,r=>by simp[J1]
 |x::l,i,0=>by
  simp only[J1,bG]
  cases bq i ks<;>cases x<;>simp
 |x::l,i,r+1=>by
  have:=Z69 (R0:=R0) (ks:=ks) (R:=l) (i:=i+1) (r:=r)
  rw[show i+1+r=i+(r+1) by omega]at this
  simpa[J1]using this
def tO(R:Rows)(ks:List Nat)(env:List (Nat×D)):List (Nat×D):=env.map λx=>(x.1,x.2.Bx R ks)
theorem Zji{R:Rows}{ks:List Nat}:∀{env:List (Nat×D)} {K:List (Nat×D)->Prop},Eg R ks env K↔K (tO R ks env)
 |[],_=>Iff.rfl
 |(t,d)::l,K=>by
  simp only[Eg,D.cf]
  rw[Zji (env:=l) (K:=λl=>K ((t,d.Bx R ks)::l))]
  rfl
theorem Zk8{R:Rows}{ks:List Nat}:∀{env:List (Nat×D)} {t:Nat},look (tO R ks env) t=(look env t).Bx R ks
 |[],_=>rfl
 |(u,d)::l,t=>by
  simp only[tO,List.map_cons,look]
  split
  ·rfl
  ·exact Zk8 (env:=l)
theorem VC{M:Nat}{R:Rows}:∀{l:List Nat} {r:Nat},r∈tP M R l->M<=r
 |x ::l,r,h=>by
  simp only[tP]at h
  split at h
  ·rename_i hb
   rcases List.mem_cons.1 h with e|h
   ·rw[e];rw[aE]at hb;exact lE hb.1
   ·exact VC h
  ·exact VC h
theorem zab{N M:Nat}{c0:Ctx}{w0:World}{c:Ctx}{w:World}{st:St}{a:Act}{T:ff}{G:List ba}{ops:Array Oper}{K:St->Prop}(h:HP T G M ops st K)(hs:fk N M c0 w0 c w st a):∃jn c',K jn/\fk N M c0 w0 c' w jn a:=by
 unfold HP at h
 split at h
 ·exact⟨st,c,h,hs⟩
 ·rename_i ks hk
  have hM:∀k,bq k (tP M st.rows (RS T G st.env st.rows [] [] ops.toList))=true->M<=k:=λk hk=>VC (nV.1 hk)
  generalize tP M st.rows (RS T G st.env st.rows [] [] ops.toList)=ks at*
  rw[Zji,mO]at h
  have hm:=qab (ks:=ks) hs.mem hs.rows
  refine⟨_,c.oM st.rows ks,h,hm,λr=>?_,λt=>?_,hs.size,hs.defers,hs.fw,hs.gk,hs.reach.step (ks:=ks) hM hs.gk ⟨hm,Zc2,Fr.refl _ w,λb hb=>?_,λr ao hr hv=>?_⟩⟩
  ·rw[Z69,aX,<-hs.rows r];rfl
  ·rw[Zk8];exact zE hs.mem hs.rows (hs.env t)
  ·rcases hb with hb|hb
   ·exact .inl hb
   ·exact .inr (.inl hb)
  ·obtain⟨_,row,h1,_⟩:=J0 hr
   exact .inl ⟨⟨row,h1⟩,hv,rfl⟩
theorem vb{c:Ctx}{w:World}(hm:Mem c w){r:Nat}{ty:TypeId}{sz:Nat}{e e':List D}(hr:c.R r=some ⟨true,ty,sz,.gen [e]⟩)(hl:e'.length=e.length)(hc:∀arr,kA c w e arr 0->kA c w e' arr 0):jf c w (c.jv r ⟨true,ty,sz,.gen [e']⟩) w/\Mem (c.jv r ⟨true,ty,sz,.gen [e']⟩) w:=by
 have hg:jf c w (c.jv r ⟨true,ty,sz,.gen [e']⟩) w:=by
  refine⟨rfl,aO _,λb hb=>⟨hb,rfl⟩,λs x hs=>?_⟩
  by_cases e:s=r
  ·subst e
   rw[hr]at hs;cases hs
   exact⟨⟨true,ty,sz,.gen [e']⟩,by simp[Ctx.jv],rfl,rfl,rfl,rfl,rfl,Iff.rfl,λ_ a ha=>⟨a,ha,rfl⟩⟩
  ·exact⟨x,by simp[Ctx.jv,e,hs],rfl,rfl,rfl,rfl,rfl,Iff.rfl,λ_ a ha=>⟨a,ha,rfl⟩⟩
 have ju:∀s x,(c.jv r ⟨true,ty,sz,.gen [e']⟩).R s=some x->∃x',c.R s=some x':=λs x hs=>by
  by_cases e:s=r
  ·exact⟨_,by rw[e];exact hr⟩
  ·exact⟨x,by simpa[Ctx.jv,e]using hs⟩
 refine⟨hg,λs x hs=>?_,λs q x y hs hq v1 v2 he=>?_,λb iq=>⟨(hm.fh b iq).1,λs x hs hv=>?_⟩,hm.top,hm.kC⟩
 ·by_cases es:s=r
  ·subst es
   simp only[Ctx.jv,if_true,Option.some.injEq]at hs
   subst hs
   rcases hm.row _ _ hr with⟨g0,g1,g2,g3⟩|⟨g0,arr,g1,g2,g3⟩
   ·cases g1
   ·refine .inr ⟨g0,arr,g1,g2,?_⟩
    simp only[if_true]at g3⊢
    obtain⟨e0,q1,q2,q3,q4⟩:=g3
    cases q1
    exact⟨e',rfl,hl.trans q2,q3,ME hg (hc arr q4)⟩
  ·have jd:c.R s=some x:=by simpa[Ctx.jv,es]using hs
   exact tC hg rfl Iff.rfl (λ_=>rfl) (hm.row s x jd)
 ·obtain⟨x',jz⟩:=ju s x hs
  obtain⟨y',wU⟩:=ju q y hq
  exact hm.inj s q x' y' jz wU v1 v2 he
 ·obtain⟨x',jz⟩:=ju s x hs
  exact(hm.fh b iq).2 s x' jz hv
theorem qc{T:ff}{R:Rows}{i:Nat}{ty:TypeId}{sz:Nat}{e:TypeId}{n:Nat}(h:tQ T R i=some (ty,sz,e,n)):0<n/\∃d,R.getD i none=some ⟨true,ty,sz,.gen [[d]]⟩/\(d=.dq\/d=.emp):=by
 unfold tQ at h
 split at h
 ·rename_i jP ka d hr
  have go:∀{x:Option (TypeId×Nat×TypeId×Nat)},x=some (ty,sz,e,n)->(x=match T.get jP with|some ⟨.slice e n,_,_,_,_,_⟩=>(match bJ 0 n with|true=>some (jP,ka,e,n)|false=>none)|_=>none)->0<n/\jP=ty/\ka=sz:=by
   intro x hx hy
   rw[hx]at hy
   split at hy
   ·split at hy
    ·rename_i hb;cases hy;exact⟨lE hb,rfl,rfl⟩
    ·cases hy
   ·cases hy
  split at h
  ·obtain⟨h1,rfl,rfl⟩:=go h rfl
   exact⟨h1,_,hr,.inl rfl⟩
  ·obtain⟨h1,rfl,rfl⟩:=go h rfl
   exact⟨h1,_,hr,.inr rfl⟩
  ·cases h
 ·cases h
theorem FI{N M:Nat}{c0:Ctx}{w0:World}{w:World}{a:Act}{T:ff}{env:List (Nat×D)}{K:Rows->Prop}:∀{l:List ij} {R:Rows} {c:Ctx},HQ T l env R K->fk N M c0 w0 c w ⟨env,R⟩ a->∃R' c',K R'/\fk N M c0 w0 c' w ⟨env,R'⟩ a
 |[],R,c,h,hs=>⟨R,c,h,hs⟩
 |.int _ _::l,R,c,h,hs=>FI (l:=l) h hs
 |.arr _::l,R,c,h,hs=>FI (l:=l) h hs
 |.sl _ _ _::l,R,c,h,hs=>FI (l:=l) h hs
 |.fn _ _::l,R,c,h,hs=>FI (l:=l) h hs
 |.ptr i _ _::l,R,c,h,hs=>by
  simp only[HQ]at h
  split at h
  rotate_left
  ·exact FI (l:=l) h hs
  rename_i ty sz u n hr
  obtain⟨h0,d,h2,hd⟩:=qc hr
  simp only[mO,MF]at h
  have cj:i<R.length:=by
   by_cases cj:i<R.length
   ·exact cj
   ·rw[aK,aM (by omega)]at h2;cases h2
  rw[List.set_append_left _ _ cj]at h
  have hi:c.R i=some ⟨true,ty,sz,.gen [[d]]⟩:=by rw[hs.rows];exact h2
  have hn:c.R R.length=none:=by rw[hs.rows,aK,aM (aO _)];rfl
  have gg:i≠R.length:=by omega
  have HR:=VD hs.mem hn (row:=⟨false,u,n,.gen []⟩) rfl rfl h0
  have VE:=RU (w:=w) hn ⟨false,u,n,.gen []⟩
  have VF:(c.jl R.length ⟨false,u,n,.gen []⟩).R i=some ⟨true,ty,sz,.gen [[d]]⟩:=by simp[Ctx.jl,gg,hi]
  obtain⟨VG,By⟩:=vb (e':=[.all R.length]) HR VF rfl (λarr hc=>by
   obtain⟨⟨v,hv,h1⟩,_⟩:=hc
   refine⟨⟨v,hv,⟨false,u,n,.gen []⟩,by simp[Ctx.jl],rfl,.inl ⟨.inl rfl,?_⟩⟩,trivial⟩
   rcases hd with rfl|rfl
   ·exact⟨none,h1,MG⟩
   ·exact h1)
  have hg:=VE.trans VG
  have nh:lu c w ((c.jl R.length ⟨false,u,n,.gen []⟩).jv i ⟨true,ty,sz,.gen [[.all R.length]]⟩) w:=by
   refine⟨By,hg,Fr.refl _ w,λb hb=>.inl hb,λr ao hr hv=>.inl ?_⟩
   have wX:r≠R.length:=λe=>hv (.inl e)
   by_cases er:r=i
   ·subst er;exact⟨⟨_,hi⟩,λe=>hv (.inr e),rfl⟩
   ·exact⟨⟨ao,by simpa[Ctx.jv,Ctx.jl,er,wX]using hr⟩,λe=>hv (.inr e),rfl⟩
  refine FI (l:=l) h ⟨By,λr=>?_,λt=>wQ hg (hs.env t),hs.size,hs.defers,hs.fw,hs.gk,hs.reach.step (ks:=[]) (λk hk=>by simp[bq]at hk) hs.gk nh.toK⟩
  simp only[Ctx.jv,Ctx.jl]
  by_cases er:r=i
  ·subst er
   simp[aK,aZ (show r<(R.set r _).length by simpa using cj),cj]
  ·rw [if_neg er]
   by_cases en:r=R.length
   ·subst en
    simp[aK]
   ·rw[if_neg en,hs.rows]
    by_cases hl:r<R.length
    ·simp[aK,aZ (show r<(R.set i _).length by simpa using hl),List.getElem?_set_ne (Ne.symm er)]
    ·have h1:R.getD r none=none:=by rw[aK,aM (by omega)];rfl
     rw[h1,aK,aM (by simp;omega)];rfl
