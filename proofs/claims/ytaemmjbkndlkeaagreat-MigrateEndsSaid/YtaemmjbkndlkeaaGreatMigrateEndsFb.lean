import Derived.Test.YtaemmjbkndlkeaaGreatMigrateEndsFk
import Derived.Laws.IdiomStrings
import Derived.Laws.BytesArg
import Derived.Laws.Cover3
import Derived.RangeFuncRecord
import Derived.OrdersIn
import Derived.LoopNIn
open List renaming getD->aV,getElem?_take->aF,getElem?_toArray->bH,getElem?_append_left->bI,size_toArray->aK,getElem?_append_right->bJ,length_take->aD,length_drop->aG,getElem?_eq_none->aJ,range'->bO,map_append->bP,map_congr_left->bQ,ext_getElem->bR,getElem_map->bS,getElem_range'->bT,map_toArray->bV
open Nat renaming mul_le_mul_right->bD,succ_mul->bF,zero_add->bG,add_mul->bK,le_refl->aX,add_zero->aB,le_trans->bL,lt_of_lt_of_le->bM,blt->bN
open Bool renaming or_eq_true->aT,false_eq_true->aA
open Array renaming getD->aY,empty_append->bU,toArray_toList->bW
open Option renaming bind_some->aW
set_option linter.all false
namespace Go.GD
open Go
variable {B M N g i id j k n r sz:Nat}{G:List bd}{I:ae}{K:D->Prop}{P:Program}{Q:Exit->Act->World->Prop}{R R':Rows}{T:iy}{a:Act}{after:Array Edge}{args:Array Operand}{b want:Bool}{cs:List iD}{d val x:D}{ds:List Deferred}{dst:Option Tmp}{e ty type:TypeId}{es:ai}{ev:Operand->D}{ks:List Nat}{news us:List Value}{o:Oper}{ops:Array Oper}{pos:String}{ro:Option Nat}{row:Row}{st:St}{dj:Array TypeId}{v:Value}{w w' w0:World}
theorem Zj(w:World){t tx ty e:TypeId}{i:TypeInfo}(ht:P.underlying t=some (.slice e))(hi:P.info? e=some i)
 {a:Option Addr} {n cap m:Nat} {x:Value} {news:List Value} (hl:(Builtin.lenOf x).run P w=.ok m w) (hf:(Builtin.firstCells i.size (min m n) x).run P w=.ok news.toArray w) {w':World}
 (j0:∀b,a=some b->(storeCells b news).run P w=.ok () w') (mZ:a=none->w'=w):
 (Builtin.copy_ #[t,tx] ty #[.slice a n cap,x]).run P w=.ok (.int .i64 (min m n:Nat)) w':=by
 cases a with
 |none=>
  have:=mZ rfl
  subst this
  simp[Builtin.copy_,run_underlying ht,sizeOf,typeInfo,hi,hl,goInt,hf]
 |some b=>simp[Builtin.copy_,run_underlying ht,sizeOf,typeInfo,hi,hl,goInt,hf,j0 b rfl]
theorem Zdo{es:List (List D)}(h:im I w es news.toArray 0 sz)(hk:k<=es.length):im I w (es.take k) (news.take (k*sz)).toArray 0 sz:=by
 rw[tn]at h⊢
 intro i hi
 have iF:i<k:=by simp at hi;omega
 obtain⟨h1,h2⟩:=h i (by omega)
 have he:(es.take k).getD i []=es.getD i []:=by simp[aV,aF,iF]
 rw[he]
 refine⟨h1,?_⟩
 rw[tP]at h2⊢
 intro j hj
 obtain⟨v,hv,hp⟩:=h2 j hj
 refine⟨v,?_,hp⟩
 have bh:i*sz+j<k*sz:=by
  have:=bD sz (show i+1<=k by omega)
  rw[bF]at this
  omega
 simp only[bG,bH]at hv⊢
 rw[aF,if_pos bh]
 exact hv
theorem Z20{es ys:List (List D)}{A B:List Value}(h1:im I w es A.toArray 0 sz)(hA:A.length=es.length*sz)(h2:im I w ys B.toArray 0 sz):im I w (es++ys) (A++B).toArray 0 sz:=by
 rw[tn]at h1 h2⊢
 intro i hi
 by_cases bh:i<es.length
 ·have he:(es++ys).getD i []=es.getD i []:=by simp[aV,bI bh]
  rw[he]
  obtain⟨g1,g2⟩:=h1 i bh
  refine⟨g1,?_⟩
  rw[tP]at g2⊢
  intro j hj
  obtain⟨v,hv,hp⟩:=g2 j hj
  refine⟨v,?_,hp⟩
  have hl:=(Array.getElem?_eq_some_iff.1 hv).1
  simp only[bH,aK]at hv hl⊢
  rw[bI hl];exact hv
 ·have iF:i-es.length<ys.length:=by simp at hi;omega
  have he:(es++ys).getD i []=ys.getD (i-es.length) []:=by simp[aV,bJ (show es.length<=i by omega)]
  rw[he]
  obtain⟨g1,g2⟩:=h2 _ iF
  refine⟨g1,?_⟩
  rw[tP]at g2⊢
  intro j hj
  obtain⟨v,hv,hp⟩:=g2 j hj
  refine⟨v,?_,hp⟩
  simp only[bH]at hv⊢
  have e:0+i*sz+j=A.length+(0+(i-es.length)*sz+j):=by
   rw[hA,show i*sz=(es.length+(i-es.length))*sz by congr 1;omega,bK];omega
  rw[e,bJ (by omega)]
  rw[show A.length+(0+(i-es.length)*sz+j)-A.length=0+(i-es.length)*sz+j by omega]
  exact hv
theorem Zsg{es:List (List D)}{arr:Array Value}(h:im I w es arr 0 sz):im I w (es.drop k) (arr.toList.drop (k*sz)).toArray 0 sz:=by
 have:=J4 (l:=k) h
 rw[tn]at this⊢
 intro i hi
 obtain⟨h1,h2⟩:=this i hi
 refine⟨h1,?_⟩
 rw[tP]at h2⊢
 intro j hj
 obtain⟨v,hv,hp⟩:=h2 j hj
 refine⟨v,?_,hp⟩
 simp only[bH,List.getElem?_drop]
 rw[<-hv]
 simp[Nat.add_assoc]
theorem yG{c:Ctx}(hm:Mem c w){row ao:Row}(hr:c.R r=some row)(h1:ao.box=row.box)(hb:row.box=false)(h2:ao.ty=row.ty)(h3:ao.sz=row.sz)(h4:ao.es.l=row.es.l):jc c w (c.jT r ao) w/\Mem (c.jT r ao) w:=by
 have hg:jc c w (c.jT r ao) w:=by
  refine⟨rfl,aX _,λb hb=>⟨hb,rfl⟩,λs x hs=>?_⟩
  by_cases e:s=r
  ·subst e
   rw[hr]at hs;cases hs
   exact⟨ao,by simp[Ctx.jT],h1,h2,h3,by rw[h4],rfl,Iff.rfl,λ_ a ha=>⟨a,ha,rfl⟩⟩
  ·exact⟨x,by simp[Ctx.jT,e,hs],rfl,rfl,rfl,rfl,rfl,Iff.rfl,λ_ a ha=>⟨a,ha,rfl⟩⟩
 have jF:∀s x,(c.jT r ao).R s=some x->∃x',c.R s=some x':=λs x hs=>by
  by_cases e:s=r
  ·exact⟨row,by rw[e];exact hr⟩
  ·exact⟨x,by simpa[Ctx.jT,e]using hs⟩
 refine⟨hg,λs x hs=>?_,λs q x y hs hq v1 v2 he=>?_,λb ij=>⟨(hm.fg b ij).1,λs x hs hv=>?_⟩,hm.top,hm.jZ⟩
 ·by_cases e:s=r
  ·subst e
   simp only[Ctx.jT,if_true,Option.some.injEq]at hs
   subst hs
   rcases hm.row _ row hr with⟨g0,g1,g2,g3⟩|⟨g0,arr,g1,g2,g3⟩
   ·exact .inl ⟨g0,h1.trans g1,h4.trans g2,by rw[h3];exact g3⟩
   ·refine .inr ⟨g0,arr,by rw[h2];exact g1,by rw[h3];exact g2,?_⟩
    rw[if_neg (by rw[hb];simp)]at g3
    rw[if_neg (by rw[h1,hb];simp),h4,h3]
    exact g3
  ·have iU:c.R s=some x:=by simpa[Ctx.jT,e]using hs
   exact tk hg rfl Iff.rfl (λ_=>rfl) (hm.row s x iU)
 ·obtain⟨x',jM⟩:=jF s x hs
  obtain⟨y',w5⟩:=jF q y hq
  exact hm.inj s q x' y' jM w5 v1 v2 he
 ·obtain⟨x',jM⟩:=jF s x hs
  exact(hm.fg b ij).2 s x' jM hv
theorem za(hT:Q4 P T){t tx ty:TypeId}{x y:D}{K:D->Rows->Prop}(h:tQ T t tx x y R K):
 ∃ val R',K val R'/\∀c w vx vy,Mem c w->(∀r,c.R r=R.getD r none)->Rep c w x vx->Rep c w y vy->
  ∃v' w' c',(Builtin.copy_ #[t,tx] ty #[vx,vy]).run P w=.ok v' w'/\lL c w c' w'/\(∀r,c'.R r=R'.getD r none)/\Rep c' w' val v':=by
 unfold tQ at h
 split at h
 ·rename_i e iI _ _ _ _ _ ht
  have hk:=mF hT ht
  simp only at hk
  split at h
  ·rename_i ke sz lz cs z q kx _ _ _ _ _ he htx
   obtain⟨i0,pB,By,_,J5,w6,_⟩:=Qc (hT.get he)
   simp only at By
   split at h
   ·rename_i sy ys jV
    simp only[dd,aE,aT]at h
    obtain⟨⟨⟨h0,h1⟩,h5⟩,h⟩:=h
    have h0:0<sz:=lE h0
    have h5:sy=sz\/ys.l=[]:=h5.imp bE Sv
    have core:∀(r o n k:Nat) (jW:TypeId) (es iW:ai),iW.l=es.l.take o++ys.l.take k++es.l.drop (o+k)->R.getD r none=some ⟨false,jW,sz,es⟩->k=min ys.l.length n->o+n<=es.l.length->∀c w vx vy,Mem c w->(∀r,c.R r=R.getD r none)->
     ((n=0/\∃a,vx=.slice a 0 0)\/(¬c.V r/\∃cap arr,vx=.slice (some ⟨c.ρ r,o*sz,none⟩) n cap/\w.heap[c.ρ r]?=some (.cells arr jW (0,0))))->Rep c w y vy->
     ∃v' w' c',(Builtin.copy_ #[t,tx] ty #[vx,vy]).run P w=.ok v' w'/\lL c w c' w'/\(∀q,c'.R q=(R.set r (some ⟨false,jW,sz,iW⟩)).getD q none)/\v'=.int .i64 (k:Nat):=by
     intro r o n k jW es iW HO hr uV J6 c w vx vy hm hR hx hy
     have oW:mf c R:=λr row ao g1 g2=>by rw[hR,g2]at g1;exact(Option.some.inj g1).symm
     obtain⟨news,s1,s2,s3,s4⟩:=y8 (P:=P) h0 jV h5 hm oW hy
     have cz:c.R r=some ⟨false,jW,sz,es⟩:=by rw[hR];exact hr
     rcases hx with⟨hn0,a,hx⟩|⟨hV,cap,arr,hx,hh⟩
     ·subst hx
      have w6:k=0:=by omega
      have il:=Zj (P:=P) w (ty:=ty) (tx:=tx) (a:=a) (n:=0) (cap:=0) (news:=[]) (w':=w) hk.1 pB s2 (by rw[By];simpa using s3 0 (Nat.zero_le _) w rfl) (λb _=>by simp[storeCells]) (λ_=>rfl)
      have hl:iW.l=es.l:=by rw[HO,w6];simp
      obtain⟨u1,u2⟩:=yG hm cz (ao:=⟨false,jW,sz,iW⟩) rfl rfl rfl rfl hl
      refine⟨_,w,c.jT r ⟨false,jW,sz,iW⟩,il,⟨u2,u1,Fr.refl _ w,λb hb=>.inl hb,λq row hq v=>.inl ⟨?_,v,rfl⟩⟩,λq=>?_,by rw[w6];simp⟩
      ·by_cases e:q=r
       ·exact⟨_,by rw[e];exact cz⟩
       ·exact⟨row,by simpa[Ctx.jT,e]using hq⟩
      ·rw[FV hr]
       simp only[Ctx.jT]
       split
       ·rfl
       ·exact hR q
     ·subst hx
      obtain⟨cur,ha,_,hE⟩:=hm.real cz hV
      simp only at ha
      rw[hh]at ha;cases ha
      simp only[aA,if_false]at hE
      have kK:es.l.length*sz<=arr.size:=by
       by_cases he:es.l.length=0
       ·rw[he];omega
       ·have:=Z7t hE h0 (show es.l.length-1<es.l.length by omega)
        have e1:es.l.length*sz=(es.l.length-1)*sz+sz:=by rw[show es.l.length*sz=(es.l.length-1+1)*sz by congr 1;omega,bF]
        omega
      have We:k<=ys.l.length/\k<=n:=by omega
      have mK:o*sz+0+(news.take (k*sz)).length<=arr.size:=by
       have h1:(o+k)*sz<=es.l.length*sz:=bD _ (by omega)
       rw[bK]at h1
       rw[aD];omega
      have hlen:(news.take (k*sz)).length=k*sz:=by
       have:=bD sz We.1
       rw[aD];omega
      have j0:=run_storeCells_at (P:=P) (c.ρ r) (o*sz) jW (news.take (k*sz)) 0 arr w hh mK (λu hu=>im.one s4 s1 u (List.mem_of_mem_take hu))
      have il:=Zj (P:=P) w (ty:=ty) (tx:=tx) (a:=some ⟨c.ρ r,o*sz,none⟩) (n:=n) (cap:=cap) (news:=news.take (k*sz)) (w':=w.setRow (c.ρ r) (arr.toList.take (o*sz+0)++news.take (k*sz)++arr.toList.drop (o*sz+0+(news.take (k*sz)).length)).toArray) hk.1 pB s2 (by rw[By,<-uV];exact s3 k We.1 w rfl) (λb hb=>by cases hb;simpa using j0) (λh=>by cases h)
      have uY:iW.l.length=es.l.length:=by rw[HO];simp only[lA,aD,aG];omega
      have hw:=hm.write (ao:=⟨false,jW,sz,iW⟩) cz hV hh (arr:=(arr.toList.take (o*sz+0)++news.take (k*sz)++arr.toList.drop (o*sz+0+(news.take (k*sz)).length)).toArray)
       (by simp only[aK,lA,aD,aG,Array.length_toList];simp only[aD]at mK;omega) rfl rfl rfl uY
      have je:=hw.2 ⟨h0,by
       simp only[aA,if_false]
       rw[HO]
       refine nq (λb hb=>⟨hb,(hw.1.I b hb).2⟩) _ _ _ _ ?_
       have p1:=Zdo (k:=o) (I:=c.I) (w:=w) (news:=arr.toList) (es:=es.l) (sz:=sz) (by simpa using hE) (by omega)
       have p2:=Zdo (k:=k) s4 We.1
       have p3:=Zsg (k:=o+k) hE
       have l1:(arr.toList.take (o*sz)).length=(es.l.take o).length*sz:=by
        have:=bD sz (show o<=es.l.length by omega)
        rw[aD,aD,show min o es.l.length=o by omega,show arr.toList.length=arr.size from rfl];omega
       have q1:=Z20 p1 l1 p2
       have l2:(arr.toList.take (o*sz)++news.take (k*sz)).length=(es.l.take o++ys.l.take k).length*sz:=by
        rw[lA,l1,hlen,lA,bK,aD (l:=ys.l),show min k ys.l.length=k by omega]
       have q2:=Z20 q1 l2 p3
       have e2:o*sz+0+(news.take (k*sz)).length=(o+k)*sz:=by rw[hlen,bK];omega
       rw[e2]
       simpa using q2⟩
      refine⟨_,_,c.jT r ⟨false,jW,sz,iW⟩,il,⟨je,hw.1,(Qm w _ _).mono λb _ hb=>⟨r,_,cz,hV,hb.symm⟩,λb hb=>.inl hb,λq ao hq v=>.inl ⟨?_,v,rfl⟩⟩,λq=>?_,by rw[uV]⟩
      ·by_cases e:q=r
       ·exact⟨_,by rw[e];exact cz⟩
       ·exact⟨ao,by simpa[Ctx.jT,e]using hq⟩
      ·rw[FV hr]
       simp only[Ctx.jT]
       split
       ·rfl
       ·exact hR q
    cases x<;>simp only at h
    case all r=>
     split at h
     ·rename_i jW s es hr
      simp only[dd,nf]at h
      have hs:=bE h.1
      subst hs
      refine⟨_,_,h.2,λc w vx vy hm hR hx hy=>?_⟩
      obtain⟨row,q1,q2,hv⟩:=hx
      have cz:row=⟨false,jW,s,es⟩:=by rw[hR,hr]at q1;exact(Option.some.inj q1).symm
      subst cz
      have jM:(es.l.length=0/\∃a,vx=.slice a 0 0)\/(¬c.V r/\∃cap arr,vx=.slice (some ⟨c.ρ r,0*s,none⟩) es.l.length cap/\w.heap[c.ρ r]?=some (.cells arr jW (0,0))):=by
       rcases hv with⟨hV,a,hv,_⟩|⟨hV,cap,arr,hv,h1,h2,h3,h4⟩
       ·have:=(hm.nm q1 hV).2.1
        simp only at this
        exact .inl ⟨by rw[this];rfl,a,hv⟩
       ·exact .inr ⟨hV,cap,arr,by rw[Nat.zero_mul];exact hv,h3⟩
      obtain⟨v',w',c',p1,p2,p3,p4⟩:=core r 0 es.l.length _ jW es ((ys.take (min ys.len es.len)).app (es.drop (min ys.len es.len))) (by rw[ai.j8,ai.iY,ai.kj,ai.iv,ai.iv];simp) hr rfl (by omega) c w vx vy hm hR jM hy
      exact⟨v',w',c',p1,p2,p3,by rw[p4,ai.iv,ai.iv];rfl⟩
     ·exact h.elim
    case own r o n=>
     split at h
     ·rename_i jW s es hr
      simp only[dd,nf]at h
      have hs:=bE h.1
      subst hs
      refine⟨_,_,h.2,λc w vx vy hm hR hx hy=>?_⟩
      obtain⟨row,q1,q2,ho,hv⟩:=hx
      have cz:row=⟨false,jW,s,es⟩:=by rw[hR,hr]at q1;exact(Option.some.inj q1).symm
      subst cz
      have jM:(n=0/\∃a,vx=.slice a 0 0)\/(¬c.V r/\∃cap arr,vx=.slice (some ⟨c.ρ r,o*s,none⟩) n cap/\w.heap[c.ρ r]?=some (.cells arr jW (0,0))):=by
       rcases hv with⟨h0,a,hv,_⟩|⟨hV,cap,arr,h1,h2,h3,hv,h4⟩
       ·exact .inl ⟨h0,a,hv⟩
       ·exact .inr ⟨hV,cap,arr,hv,h3⟩
      obtain⟨v',w',c',p1,p2,p3,p4⟩:=core r o n _ jW es (((es.take o).app (ys.take (min ys.len n))).app (es.drop (o+min ys.len n))) (by rw[ai.j8,ai.j8,ai.iY,ai.iY,ai.kj,ai.iv]) hr rfl ho c w vx vy hm hR jM hy
      exact⟨v',w',c',p1,p2,p3,by rw[p4,ai.iv];rfl⟩
     ·exact h.elim
   ·exact h.elim
  ·exact h.elim
 ·exact h.elim
theorem Zr2{mx:Bool}{x y:D}(h:uZ mx x y K):∃val,K val/\∀(P:Program) c w vx vy,Rep c w x vx->Rep c w y vy->∃u,((mx=false->∀dj ty,(Builtin.min_ dj ty #[vx,vy]).run P w=.ok u w)/\(mx=true->∀dj ty,(Builtin.max_ dj ty #[vx,vy]).run P w=.ok u w))/\Rep c w val u:=by
 unfold uZ at h
 split at h
 ·rename_i k a k' b
  simp only[dd,decide_eq_true_eq]at h
  obtain⟨rfl,h⟩:=h
  refine⟨_,h,λP c w vx vy hx hy=>⟨_,⟨λe dj ty=>?_,λe dj ty=>?_⟩,rfl⟩⟩
  ·subst e
   rw[Rep.int.1 hx,Rep.int.1 hy]
   simp[Builtin.min_,Builtin.min2]
  ·subst e
   rw[Rep.int.1 hx,Rep.int.1 hy]
   simp[Builtin.max_,Builtin.max2]
 ·exact h.elim
theorem Zji(hT:Q4 P T){t:TypeId}(h:J7 T t es K):K (.mO es)/\∀c w vx vy,(∃a n cap,vx=.slice a n cap/\(a=none->es.l=[]))->Rep c w .c8 vy->∃u,(∀x y,(do eqGuard .eql t x y vx vy;binOp .eql t vx vy).run P w=.ok u w)/\Rep c w (.mO es) u:=by
 unfold J7 at h
 split at h
 ·rename_i e n _ _ _ _ _ ht
  have hk:=mF hT ht
  simp only at hk
  refine⟨h,λc w vx vy hx hy=>?_⟩
  obtain⟨a,len,cap,hv,ie⟩:=hx
  rw[show vy=_ from hy,hv]
  refine⟨.bool a.isNone,λx y=>?_,a.isNone,rfl,λe'=>?_⟩
  ·have hg:(eqGuard .eql t x y (.slice a len cap) (.slice none 0 0)).run P w=.ok () w:=rfl
   rw[Sem.run_bind,hg]
   simp only[Result.andThen_ok,binOp]
   simp only[run_equal_slice_nil w t e a len cap hk.1,Sem.run_bind,Result.andThen_ok,Sem.run_pure]
  ·exact ie (by cases a<;>simp_all)
 ·exact h.elim
theorem vG(hT:Q4 P T){t:TypeId}(h:J7 T t es K):K (.mO es)/\∀s fr c w vx vy,Rep c w (.sl s es fr) vx->Rep c w .c8 vy->∃u,(∀x y,(do eqGuard .eql t x y vx vy;binOp .eql t vx vy).run P w=.ok u w)/\Rep c w (.mO es) u:=by
 obtain⟨h1,h2⟩:=Zji hT h
 refine⟨h1,λs fr c w vx vy hx hy=>h2 c w vx vy ?_ hy⟩
 obtain⟨a,cap,hv,hc,ie⟩:=hx
 refine⟨a,_,cap,hv,λha=>?_⟩
 rcases ie with ie|⟨b,off,arr,ty,fz,hb,_⟩
 ·exact ie
 ·rw[ha]at hb;cases hb
theorem ya(hT:Q4 P T){t:TypeId}{bx:Bool}{jW j9:Nat}(hR:R.getD r none=some ⟨bx,jW,j9,es⟩)(h:J7 T t es K):K (.mO es)/\∀c w vx vy,Mem c w->mf c R->Rep c w (.all r) vx->Rep c w .c8 vy->∃u,(∀x y,(do eqGuard .eql t x y vx vy;binOp .eql t vx vy).run P w=.ok u w)/\Rep c w (.mO es) u:=by
 obtain⟨h1,h2⟩:=Zji hT h
 refine⟨h1,λc w vx vy hm hA hx hy=>h2 c w vx vy ?_ hy⟩
 obtain⟨row,g1,g2,hv⟩:=hx
 have:=hA r row _ g1 hR
 subst this
 rcases hv with⟨hV,a,hv,_⟩|⟨hV,cap,arr,hv,_⟩
 ·exact⟨a,0,0,hv,λ_=>(hm.nm g1 hV).2.1⟩
 ·exact⟨_,_,cap,hv,λe=>by cases e⟩
theorem Zry{l:List Int}(h:im I w (ai.ints .u8 l).l news.toArray 0 1)(hl:news.length=(ai.ints .u8 l).l.length*1):news=l.map (Value.int .u8):=by
 have pC:news.length=l.length:=by simpa[ai.len]using hl
 apply List.ext_getElem?
 intro i
 by_cases hi:i<l.length
 ·obtain⟨h1,h2⟩:=tn.1 h i (by simpa[ai.len]using hi)
  rw[ai.ng _ (show i<(ai.ints .u8 l).len from hi)]at h2
  simp only[ai.get,Du,Dv,r6,r7,r8,r9,sc,sd,tt,tR,tS,tT,tU,tV,tW,tX,tY,tZ,and_true]at h2
  obtain⟨v,hv,hp⟩:=h2
  simp only[bG,Nat.mul_one,aB,bH]at hv
  rw[hv,hp]
  simp[aV,hi]
 ·rw[aJ (by omega),aJ (by simp;omega)]
theorem qH(hT:Q4 P T){s e d:TypeId}{n a1 a2:Nat}{a3:List se}{a4:Option (List D)}{a5:Bool}(hs:T.get s=some ⟨.slice e n,a1,a2,a3,a4,a5⟩)(h:u0 T e d x R K):
 ∃val,K val/\∀c w v,Mem c w->mf c R->Rep c w x v->FW P (convert s d v) w c val:=by
 unfold u0 at h
 split at h
 ·rename_i he hd
  have nb:=mF hT hs
  have pW:=mF hT he
  have J8:=mF hT hd
  simp only at nb pW J8
  split at h
  ·rename_i sy es jV
   split at h
   rotate_left
   ·exact h.elim
   rename_i l hto
   have FX:=ai.toI_l hto
   simp only[dd,aT]at h
   obtain⟨h5,h⟩:=h
   have h5:sy=1\/es.l=[]:=h5.imp bE Sv
   refine⟨_,h,λc w v hm hA hr=>?_⟩
   have hsl:∃a cap,v=.slice a es.l.length cap:=by
    cases x<;>simp only[si]at jV<;>try(cases jV;done)
    case c8=>cases jV;exact⟨none,0,hr⟩
    case emp=>cases jV;obtain⟨a,hr,_⟩:=hr;exact⟨a,0,hr⟩
    case sl=>cases jV;obtain⟨a,cap,hv,_⟩:=hr;exact⟨a,cap,hv⟩
    case all r=>
     split at jV
     ·rename_i jW s' iW hR
      cases jV
      obtain⟨row,g1,g2,hv⟩:=hr
      have:=hA r row _ g1 hR
      subst this
      rcases hv with⟨hV,a,hv,_⟩|⟨hV,cap,arr,hv,_⟩
      ·have he:=(hm.nm g1 hV).2.1
       simp only at he
       exact⟨a,0,by rw[he];exact hv⟩
      ·exact⟨_,cap,hv⟩
     ·cases jV
    case own r o m=>
     split at jV
     ·rename_i jW s' iW hR
      cases jV
      obtain⟨row,g1,g2,g5,hv⟩:=hr
      have:=hA r row _ g1 hR
      subst this
      simp only at g5
      have hlen:((iW.drop o).take m).l.length=m:=by rw[ai.iY,ai.kj];simp only[aD,aG];omega
      rw[hlen]
      rcases hv with⟨h0,a,hv,_⟩|⟨hV,cap,arr,_,_,_,hv,_⟩
      ·subst h0;exact⟨a,0,hv⟩
      ·exact⟨_,cap,hv⟩
     ·cases jV
   obtain⟨a,cap,hv⟩:=hsl
   subst hv
   obtain⟨news,s1,s2,s3,s4⟩:=z8 (P:=P) (by omega) jV h5 hm hA hr
   rw[FX]at s1 s4
   have hn:=Zry s4 s1
   have hlen:es.l.length=l.length:=by rw[FX];simp[ai.len]
   have hf:=s3 es.l.length (aX _) w rfl
   rw[List.take_of_length_le (by rw[hn,hlen];simp)]at hf
   refine⟨.string ⟨(bytesOf l).toArray⟩,?_,rfl⟩
   rw[run_convert_bytes_string w s d e a es.l.length cap nb.1 pW J8]
   cases a with
   |none=>
    simp only[Builtin.firstCells,Sem.run_pure,Result.ok.injEq,and_true]at hf
    have h1:news=[]:=by
     have:=congrArg Array.toList hf
     simpa using this.symm
    have he:l=[]:=by rw[h1]at hn;simpa using hn.symm
    subst he
    simp only[Conv.bytesToString,Sem.run_pure,bytesOf,List.map_nil]
    rfl
   |some a=>
    simp only[Builtin.firstCells,Nat.mul_one]at hf
    rw[hn]at hf
    rw[run_bytesToString w a es.l.length cap _ hf,foldl_push_bytes]
    have he0:ByteArray.empty.data= #[]:=rfl
    rw[he0]
    simp[bytesOf]
  ·exact h.elim
 ·exact h.elim
structure wW(c0:Ctx)(w0:World)(c:Ctx)(w:World):Prop where
 cy:jc c0 w0 c w
 fr:Fr (λb=>(∃r x,c0.R r=some x/\¬c0.V r/\c0.ρ r=b)\/c0.X b) w0 w
 fg:∀b,c.I b->c0.I b\/c0.X b\/w0.heap.size<=b
 ob:∀r row,c.R r=some row->¬c.V r->((∃x,c0.R r=some x)/\¬c0.V r/\c.ρ r=c0.ρ r)\/c0.X (c.ρ r)\/w0.heap.size<=c.ρ r
 xb:∀b,c0.X b->c0.base<=b
theorem wW.refl(c:Ctx)(w:World):wW {c with X:=λ_=>False} w c w:=
 ⟨⟨rfl,aX _,λ_ h=>⟨h,rfl⟩,λ_ row h=>⟨row,h,rfl,rfl,rfl,rfl,rfl,Iff.rfl,λ_ arr h=>⟨arr,h,rfl⟩⟩⟩,Fr.refl _ w,λ_ h=>.inl h,λ_ row h v=>.inl ⟨⟨row,h⟩,v,rfl⟩,λ_ h=>h.elim⟩
theorem Zmu{c0 c:Ctx}(hM:∀k,da k ks=true->M<=k)(Eg:∀r row,c0.R r=some row->r<M)(h:jc c0 w0 c w):jc c0 w0 (c.kill ks) w:=by
 refine⟨h.base,h.top,h.I,λr row hr=>?_⟩
 obtain⟨ao,g1,g2,g3,g4,g5,g6,gV,g7⟩:=h.R r row hr
 obtain⟨s1,s2,s3,s4⟩:=u5 ks ao
 have bh:=Eg r row hr
 refine⟨ao.kill ks,?_,s1.trans g2,s2.trans g3,s3.trans g4,s4.trans g5,g6,gV,g7⟩
 simp only[Ctx.kill]
 rw[if_neg (λe=>by have:=hM r e;omega),g1];rfl
theorem wW.step{c0 c c':Ctx}(hM:∀k,da k ks=true->M<=k)(Eg:∀r row,c0.R r=some row->r<M)(h:wW c0 w0 c w)(n:jN ks c w c' w'):wW c0 w0 c' w':=by
 have Bz:∀s x,da s ks=true->c.R s=some x->¬c.V s->c0.X (c.ρ s)\/w0.heap.size<=c.ρ s:=λs x hs hx v'=>by
  rcases h.ob s x hx v' with⟨⟨y,hy⟩,_⟩|e'
  ·have:=Eg s y hy;have:=hM s hs;omega
  ·exact e'
 refine⟨(Zmu hM Eg h.cy).trans n.cy,⟨n.fr.os.trans h.fr.os,n.fr.tape.trans h.fr.tape,n.fr.output.trans h.fr.output,bL h.fr.size n.fr.size,λb hb hx=>?_⟩,λb hb=>?_,λr row hr hv=>?_,h.xb⟩
 ·have bh:b<w.heap.size:=bM hb h.fr.size
  refine(n.fr.heap b bh fun⟨r,x,hr,v,e⟩=>?_).trans (h.fr.heap b hb hx)
  rcases h.ob r x hr v with⟨⟨y,hy⟩,v',e'⟩|e'|e'
  ·exact hx (.inl ⟨r,y,hy,v',by rw[<-e',e]⟩)
  ·exact hx (.inr (by rw[<-e];exact e'))
  ·omega
 ·rcases n.fg b hb with h1|⟨s,x,hs,hx,v',e⟩|h1
  ·exact h.fg b h1
  ·rcases Bz s x hs hx v' with h1|h1
   ·exact .inr (.inl (by rw[<-e];exact h1))
   ·exact .inr (.inr (by omega))
  ·have:=h.fr.size;exact .inr (.inr (by omega))
 ·rcases n.ob r row hr hv with⟨⟨x,hx⟩,v',e⟩|⟨s,x,hs,hx,v',e⟩|e
  ·rcases h.ob r x hx v' with⟨h1,h2,e'⟩|e'|e'
   ·exact .inl ⟨h1,h2,e.trans e'⟩
   ·exact .inr (.inl (by rw[e];exact e'))
   ·exact .inr (.inr (by omega))
  ·rcases Bz s x hs hx v' with h1|h1
   ·exact .inr (.inl (by rw[e];exact h1))
   ·exact .inr (.inr (by omega))
  ·have:=h.fr.size;exact .inr (.inr (by omega))
def lX(n:Nat)(w:World)(ds:List Deferred):Prop:=∃bs:List Nat,bs.Nodup/\ds=bs.map (λb=>({target:=.collected b,args:= #[]}:Deferred))/\∀b∈bs,n<=b/\w.heap[b]?=some (.deferred (some []))
theorem lX.nil:lX n w []:=⟨[],List.nodup_nil,rfl,λb hb=>by simp at hb⟩
theorem lX.to(h:lX n w ds)(hf:∀b:Nat,w.heap[b]?=some (Obj.deferred (some []))->w'.heap[b]?=some (Obj.deferred (some []))):lX n w' ds:=by
 obtain⟨bs,h1,h2,h3⟩:=h
 exact⟨bs,h1,h2,λb hb=>⟨(h3 b hb).1,hf b (h3 b hb).2⟩⟩
theorem lX.step{c:Ctx}(h:lX n w ds)(hm:Mem c w)(hf:Fr (λb=>∃r x,c.R r=some x/\¬c.V r/\c.ρ r=b) w w'):lX n w' ds:=by
 refine h.to λb h2=>(hf.heap b (Array.getElem?_eq_some_iff.1 h2).1 fun⟨r,x,hr,hV,e⟩=>?_).trans h2
 rcases hm.row r x hr with h3|⟨_,arr,h3,_⟩
 ·exact hV h3.1
 ·rw[e,h2]at h3;cases h3
theorem lX.put(h:lX n w a.defers):lX n w (a.put dst v).defers:=by
 cases dst<;>exact h
structure fi(N M:Nat)(c0:Ctx)(w0:World)(c:Ctx)(w:World)(st:St)(a:Act):Prop where
 mem:Mem c w
 rows:∀r,c.R r=st.rows.getD r none
 env:∀t,Rep c w (look st.env t) (a.tmps.getD t undef)
 size:N<=a.tmps.size
 defers:lX w0.heap.size w a.defers
 fx:c0.base<=w0.heap.size
 gv:∀r row,c0.R r=some row->r<M
 reach:wW c0 w0 c w
theorem fi.base{c0:Ctx}{c:Ctx}(h:fi N M c0 w0 c w st a):c.base<=w.heap.size:=by
 rw[h.reach.cy.base];exact bL h.fx h.reach.fr.size
theorem J3{c:Ctx}{env:List (Nat×D)}(f:Nat):Rep c w (cq env (.func f)) (a.eval (.func f)):=by
 simp only[cq,Act.eval]
 cases h:bN f YB with
 |false=>trivial
 |true=>exact⟨[],.inl ⟨lE h,rfl⟩,trivial⟩
theorem M1{c:Ctx}{env:List (Nat×D)}(h:∀t,Rep c w (look env t) (a.tmps.getD t undef))(x:Operand):Rep c w (cq env x) (a.eval x):=by
 cases x with
 |tmp t=>exact h t
 |const v=>
  simp only[cq,Act.eval]
  cases hv:FT v with
  |none=>trivial
  |some d=>exact MZ hv c w
 |global g=>trivial
 |func f=>exact J3 f
def rW(env:List (Nat×D))(dst:Option Tmp)(d:D):List (Nat×D):=match dst with|none=>env|some t=>(t,d)::env
theorem AK(env:List (Nat×D))(t:Nat)(d:D)(s:Nat):look ((t,d)::env) s=if t=s then d else look env s:=by
 simp only[look]
 cases hb:Nat.beq t s with
 |true=>rw[if_pos (bE hb)]
 |false=>rw[if_neg (λe=>by rw[e]at hb;simp at hb)]
theorem Zck{c:Ctx}{env:List (Nat×D)}(hN:N<=a.tmps.size)(hd:∀t,dst=some t->t<N)(h:∀t,Rep c w (look env t) (a.tmps.getD t undef))(hv:Rep c w d v)(t:Nat):
 Rep c w (look (rW env dst d) t) ((a.put dst v).tmps.getD t undef):=by
 cases dst with
 |none=>exact h t
 |some s=>
  have hs:=hd s rfl
  simp only[rW,Act.put,AK]
  by_cases e:s=t
  ·subst e
   rw[if_pos rfl]
   have bh:s<a.tmps.size:=bM hs hN
   simpa[aY,bh]using hv
  ·rw[if_neg e]
   have:=h t
   simpa[Array.getElem?_setIfInBounds_ne e]using this
def ju:List Operand->Nat
 |[]=>1
 |.tmp t::l=>t+1+ju l
 |_::l=>ju l
theorem Wf:∀{l:List Operand},0<ju l
 |[]=>by simp[ju]
 |x::l=>by cases x<;>simp only[ju]<;>have:=Wf (l:=l)<;>omega
theorem Sw{t:Nat}:∀{l:List Operand},.tmp t∈l->t<ju l
 |x ::l,h=>by
  rcases List.mem_cons.1 h with e|e
  ·subst e;simp only[ju];omega
  ·have:=Sw e
   cases x<;>simp only[ju]<;>omega
def FY(B:Nat):List iD->List (Nat×D)
 |[]=>[]
 |x::l=>(B,x.d)::FY (B+1) l
theorem M3{env:List (Nat×D)}:∀{cs:List iD} {B t:Nat},look (FY B cs++env) t=if h:B<=t/\t-B<cs.length then(cs[t-B]'h.2).d else look env t
 |[],B,t=>by simp[FY]
 |x ::l,B,t=>by
  simp only[FY,List.cons_append,AK,M3 (cs:=l) (B:=B+1)]
  by_cases e:B=t
  ·subst e;simp
  ·rw[if_neg e]
   by_cases h:B+1<=t/\t-(B+1)<l.length
   ·rw[dif_pos h,dif_pos (by simp;omega)]
    have:t-B=(t-(B+1))+1:=by omega
    simp only[this,List.getElem_cons_succ]
   ·rw[dif_neg h,dif_neg (by simp;omega)]
def Eh(args:Array Operand)(n:Nat):Array Operand:=(args.toList++(bO (ju args.toList) n).map Operand.tmp).toArray
def tu(a:Act)(B:Nat)(us:List Value):Act:={tmps:=((List.range B).map (λi=>a.tmps.getD i undef)++us).toArray,defers:=[]}
theorem Zju{t:Nat}(h:t<B):(tu a B us).tmps.getD t undef=a.tmps.getD t undef:=by
 simp[tu,aY,h,List.getElem_append]
 omega
theorem Zhk:(tu a B us).tmps.getD (B+i) undef=us.getD i undef:=by
 simp only[tu,Array.getD_eq_getD_getElem?,bH]
 rw[bJ (by simp)]
 simp[aV]
theorem oD.length{c:Ctx}{w:World}:∀{cs:List iD} {us:List Value},oD c w cs us->us.length=cs.length
 |[],[],_=>rfl
 |_::_,_::_,h=>by simp[oD.length h.2]
 |[],_::_,h=>h.elim
 |_::_,[],h=>h.elim
theorem oD.get{c:Ctx}{w:World}:∀{cs:List iD} {us:List Value},oD c w cs us->∀i (h:i<cs.length),Sx c w (cs[i]'h) (us.getD i undef)
 |[],[],_,i,h=>by simp at h
 |_::_,_::_,h,0,_=>by simpa using h.1
 |_::_,_::_,h,i+1,hi=>by simpa using oD.get h.2 i (by simpa using hi)
 |[],_::_,h,_,_=>h.elim
 |_::_,[],h,_,_=>h.elim
theorem Zbp{env:List (Nat×D)}:(Eh args cs.length).toList.map (cq (FY (ju args.toList) cs++env))=args.toList.map (cq env)++cs.map iD.d:=by
 simp only[Eh,bP]
 congr 1
 ·refine bQ λx hx=>?_
  cases x with
  |tmp t=>simp only[cq,M3];rw[dif_neg (by have:=Sw hx;omega)]
  |_=>rfl
 ·refine bR (by simp) λi h1 h2=>?_
  have:i<cs.length:=by simpa using h2
  simp only[bS,bT,cq,M3]
  rw[dif_pos (by omega)]
  congr 1
  simp
theorem Z1u:(Eh args us.length).toList.map (tu a (ju args.toList) us).eval=args.toList.map a.eval++us:=by
 simp only[Eh,bP]
 congr 1
 ·refine bQ λx hx=>?_
  cases x with
  |tmp t=>exact Zju (Sw hx)
  |_=>rfl
 ·refine bR (by simp) λi h1 h2=>?_
  have:i<us.length:=h2
  simp only[bS,bT,Act.eval,Nat.one_mul]
  rw[Zhk]
  simp[aV,this]
theorem BA{c:Ctx}{env:List (Nat×D)}(hl:∀x∈args.toList,Rep c w (cq env x) (a.eval x))(hc:oD c w cs us):∀x∈(Eh args cs.length).toList,Rep c w (cq (FY (ju args.toList) cs++env) x) ((tu a (ju args.toList) us).eval x):=by
 intro x hx
 simp only[Eh,List.mem_append,List.mem_map]at hx
 rcases hx with hx|⟨t,ht,rfl⟩
 ·have:=hl x hx
  cases x with
  |tmp t=>
   have bh:=Sw hx
   simp only[cq,M3,Act.eval]
   rw[dif_neg (by omega),Zju bh]
   exact this
  |_=>exact this
 ·rw[List.mem_range'_1]at ht
  obtain⟨i,hi,rfl⟩:∃i:Nat,i<cs.length/\t=ju args.toList+i:=⟨t-ju args.toList,Nat.sub_lt_left_of_lt_add ht.1 ht.2,(Nat.add_sub_cancel' ht.1).symm⟩
  have h2:=oD.get hc i hi
  have h3:look (FY (ju args.toList) cs++env) (ju args.toList+i)=(cs[i]'hi).d:=by
   rw[M3,dif_pos ⟨by omega,by omega⟩]
   congr 1
   simp
  simp only[cq,Act.eval]
  rw[h3,Zhk]
  exact Rep.J9 (VRep.Ei (Wg.1 h2))
theorem xaB{f:FuncId}(he:∀args w,(callFunc f args).run P w=.ok (.enter f args) w){t:Tmp}{guard:Option (Nat×Bool)}
 (ht:a.eval (.tmp t)=.func (.func f) #[] us.toArray) {K:Act->World->Prop} {Q:Exit->Act->World->Prop}
 (h:(⟨some 0,.call ⟨.value (.func f),Eh args us.length,dj⟩,type,pos,after,guard⟩:Oper).nd P (tu a (ju args.toList) us) w (λa' w'=>K (a.put dst (a'.tmps.getD 0 undef)) w') (λ_ _ _=>False)):
 (⟨dst,.call ⟨.value (.tmp t),args,dj⟩,type,pos,after,guard⟩:Oper).nd P a w K Q:=by
 have hv:=Z1u (a:=a) (args:=args) (us:=us)
 have r1:(execOp (tu a (ju args.toList) us).eval (⟨some 0,.call ⟨.value (.func f),Eh args us.length,dj⟩,type,pos,after,guard⟩:Oper)).run P w=.ok (.enter f (args.toList.map a.eval++us).toArray) w:=by
  simp only[execOp,resolve,Act.eval,Deferred.ofValue,Sem.run_bind,Sem.run_pure,Result.andThen_ok,invoke,bU,Array.append_empty]
  rw[he,<-hv,<-bV,bW]
 have r2:(execOp a.eval (⟨dst,.call ⟨.value (.tmp t),args,dj⟩,type,pos,after,guard⟩:Oper)).run P w=.ok (.enter f (args.toList.map a.eval++us).toArray) w:=by
  simp only[execOp,resolve,ht,Deferred.ofValue,Sem.run_bind,Sem.run_pure,Result.andThen_ok,invoke,bU]
  rw[he]
  congr 2
  rw[<-List.append_toArray,<-bV,bW]
 have bh:0<(tu a (ju args.toList) us).tmps.size:=by have:=Wf (l:=args.toList);simp[tu];omega
 unfold Oper.nd at h⊢
 rw[r1]at h
 rw[r2]
 refine Calls.mono h λe w' ⟨v,he,hp⟩=>⟨v,he,?_⟩
 have:((tu a (ju args.toList) us).put (some 0) v).tmps.getD 0 undef=v:=by
  simp only[Act.put]
  simp[aY,bh]
 simp only[this]at hp
 exact hp
theorem xH{t:Tmp}{guard:Option (Nat×Bool)}{l:Nat}{rec:Loop}
 (ht:a.eval (.tmp t)=.func (.yield l) #[] #[]) (hl:w.heap[l]?=some (.loop rec)) {K:Act->World->Prop} {Q:Exit->Act->World->Prop} (hs:(args.toList.map a.eval).length=rec.params.size)
 (h:RoundIn Fence.wide 0 P l rec.fn ((rec.params.zip (args.toList.map a.eval).toArray).foldl (λtmps (t,a)=>tmps.setIfInBounds t a) rec.tmps) rec.assign rec.body w λe w'=>∃v,e=.returned v/\K (a.put dst v) w'):
 (⟨dst,.call ⟨.value (.tmp t),args,dj⟩,type,pos,after,guard⟩:Oper).nd P a w K Q:=by
 have r2:(execOp a.eval (⟨dst,.call ⟨.value (.tmp t),args,dj⟩,type,pos,after,guard⟩:Oper)).run P w=.ok (.round l rec.fn ((rec.params.zip (args.toList.map a.eval).toArray).foldl (λtmps (t,a)=>tmps.setIfInBounds t a) rec.tmps) rec.assign rec.body) w:=by
  simp only[execOp,resolve,ht,Deferred.ofValue,Sem.run_bind,Sem.run_pure,Result.andThen_ok,invoke,bU]
  have hy:=run_yield (P:=P) (args:=(args.toList.map a.eval).toArray) hl (by simpa using hs)
  rw[<-hy,<-bV,bW]
 unfold Oper.nd
 rw[r2]
 exact h
section
variable {P:Program} {G:List bd} {M:Nat} {dst:Option Tmp} {f:FuncId} {t:Tmp} {args:Array Operand} {dj:Array TypeId} {type:TypeId} {pos':String} {after:Array Edge} {guard:Option (Nat×Bool)} {env:List (Nat×D)} {cs:List iD} {R:Rows}
theorem M4{x:bd}(dx:bn P x)(hf:x.f=f)(hy:f<YB)(ht:look env t=.gp f cs)
 (h:BB P ⟨some 0,.call ⟨.value (.func f),Eh args cs.length,dj⟩,type,pos',after,guard⟩ (cq (FY (ju args.toList) cs++env)) R ks val R'):BB P ⟨dst,.call ⟨.value (.tmp t),args,dj⟩,type,pos',after,guard⟩ (cq env) R ks val R':=by
 intro c w a hm hb hR eh K Q hK
 have h1:=eh (.tmp t) (by simp[Op.operands,Call.operands])
 simp only[cq,ht]at h1
 obtain⟨us,⟨_,hv⟩|⟨gl,_⟩,hc⟩:=h1
 rotate_left
 ·exact absurd hy (Nat.not_lt.2 gl)
 have hl:us.length=cs.length:=hc.length
 refine xaB (λaz w=>by rw[<-hf];exact dx.enters (by rw[hf];exact hy) az w) hv ?_
 rw[hl]
 refine h c w _ hm hb hR (λy hy=>?_) _ _ λv w' c' hn j7 hr=>?_
 ·have fu:∀x∈args.toList,Rep c w (cq env x) (a.eval x):=λy hy=>eh y (by simp[Op.operands,Call.operands];exact .inr (by simpa using hy))
  simp only[Op.operands,Call.operands]at hy
  rcases Array.mem_append.1 hy with hy|hy
  ·simp at hy;subst hy;exact J3 _
  ·exact BA fu hc y (by simpa using hy)
 ·have bh:0<(tu a (ju args.toList) us).tmps.size:=by have:=Wf (l:=args.toList);simp[tu];omega
  have:((tu a (ju args.toList) us).put (some 0) v).tmps.getD 0 undef=v:=by
   simp only[Act.put]
   simp[aY,bh]
  show K (a.put dst (((tu a (ju args.toList) us).put (some 0) v).tmps.getD 0 undef)) w'
  rw[this]
  exact hK v w' c' hn j7 hr
theorem Ztd{K:D->Rows->Prop}(hG:jD P G)(lM:oX G f=none)(ht:look env t=.gp f cs)(h:Ka G f (args.toList.map (cq env)++cs.map iD.d) R K):∃val R',K val R'/\BB P ⟨dst,.call ⟨.value (.tmp t),args,dj⟩,type,pos',after,guard⟩ (cq env) R [] val R':=by
 rw[<-Zbp]at h
 obtain⟨val,R',x,h1,h2,h3,_⟩:=Wh (dst:=some 0) (dj:=dj) (type:=type) (pos':=pos') (after:=after) (guard:=guard) hG lM h
 obtain⟨dx,hf⟩:=FZ hG h2
 have u6:x.gone=none:=by simpa[oX,h2]using lM
 exact⟨val,R',h1,M4 dx hf (by rw[<-hf];exact dx.real u6) ht h3.toK⟩
theorem qb{K:List Nat->D->Rows->Prop}(hG:jD P G)(rU:(bN f YB||Nat.beq args.size 1)=true)(lM:oX G f=some k)(ht:look env t=.gp f cs)(h:HP G M f k (args.toList.map (cq env)++cs.map iD.d) R K):∃ks val R',K ks val R'/\(∀j,da j ks=true->M<=j)/\BB P ⟨dst,.call ⟨.value (.tmp t),args,dj⟩,type,pos',after,guard⟩ (cq env) R ks val R':=by
 rw[<-Zbp]at h
 by_cases hy:f<YB
 ·obtain⟨ks,val,R',x,h1,h2,h3,h4,h5⟩:=Zqt hG hy (dst:=some 0) (dj:=dj) (type:=type) (pos':=pos') (after:=after) (guard:=guard) lM h
  obtain⟨dx,hf⟩:=FZ hG h2
  exact⟨ks,val,R',h1,h4,M4 dx hf hy ht h5⟩
 ·obtain⟨ks,val,R',x,h1,h2,h3,h4,h5⟩:=Wi hG lM h
  refine⟨ks,val,R',h1,h4,λc w a hm hb hR eh K' Q pX=>?_⟩
  have h1:=eh (.tmp t) (by simp[Op.operands,Call.operands])
  simp only[cq,ht]at h1
  obtain⟨us,⟨bh,_⟩|⟨gl,l,rec,hv,hI,hl,mP⟩,hc⟩:=h1
  ·exact absurd bh hy
  have fu:∀x∈args.toList,Rep c w (cq env x) (a.eval x):=λy hy=>eh y (by simp[Op.operands,Call.operands];exact .inr (by simpa using hy))
  have hlen:us.length=cs.length:=hc.length
  have iX:(args.toList.map a.eval).length=1:=by
   rcases Bool.or_eq_true_iff.1 rU with e|e
   ·exact absurd (lE e) hy
   ·simpa using bE e
  have ft:(args.toList.map a.eval).length=rec.params.size:=by
   obtain⟨_,_,y,_,hp,_,_,_,h1,_⟩:=mP
   rw[hp,h1];exact iX
  exact xH hv hl ft ((h5 c w (tu a (ju args.toList) us).eval hm hb hR (λy hy=>BA fu hc y hy) (λv w'=>K' (a.put dst v) w') λv w' c'=>pX v w' c').2 (Nat.le_of_not_lt hy) l rec (args.toList.map a.eval) us (by rw[<-hlen,Z1u]) hI hl mP iX)
end
def pD(P:Program)(G:List bd)(M:Nat)(o:Oper)(ev:Operand->D)(R:Rows)(ks:List Nat)(val:D)(R':Rows):Prop:=
 if rY G o.op=true then(∀k,da k ks=true->M<=k)/\BB P o ev R ks val R' else ks=[]/\pI P o ev R val R'
theorem pD.toK(h:pD P G M o ev R ks val R'):(∀k,da k ks=true->M<=k)/\BB P o ev R ks val R':=by
 unfold pD at h
 split at h
 ·exact h
 ·obtain⟨rfl,h⟩:=h
  exact⟨λk hk=>by simp[da]at hk,h.toW.toK⟩
theorem AM(hw:rY G o.op=false)(h:pI P o ev R val R'):pD P G M o ev R [] val R':=by
 unfold pD;rw[hw];exact⟨rfl,h⟩
theorem BC(hw:rY G o.op=true)(hk:∀k,da k ks=true->M<=k)(h:BB P o ev R ks val R'):pD P G M o ev R ks val R':=by
 unfold pD;rw[if_pos hw];exact⟨hk,h⟩
def nu(P:Program)(G:List bd)(M:Nat)(ops:Array Oper)(o:Oper)(env:List (Nat×D))(R:Rows)(ks:List Nat)(val:D)(R':Rows):Prop:=
 match o.guard with
 |none=>pD P G M o (cq env) R ks val R'
 |some (j,want)=>∃g,(ops[j]?).bind (·.dst)=some g/\((∃b,look env g=.bool b/\(if b=want then pD P G M o (cq env) R ks val R' else ks=[]/\val=.dw []/\R'=R))\/(look env g=.dw []/\ks=[]/\val=.dw []/\R'=R))
theorem oE{K:St->Prop}(h:st.put N dst d R K):(∀t,dst=some t->t<N)/\K ⟨rW st.env dst d,R⟩:=by
 cases dst with
 |none=>exact⟨λt h=>(by cases h),h⟩
 |some t=>
  simp only[St.put,dd]at h
  refine⟨λs hs=>?_,h.2⟩
  cases hs
  exact lE h.1
theorem zb(d:D):d.kill []=d:=by
 cases d with
 |agg cs=>show D.agg (D.ji [] cs)=_;rw[Wj]
 |gp f cs=>exact Wk (.gp f cs)
 |_=>rfl
theorem Zkg:∀{ds:List D},D.pJ [] ds=ds
 |[]=>rfl
 |d::l=>by simp[D.pJ,zb,Zkg (ds:=l)]
theorem yb(d:D):d.j4 []=d:=by
 cases d with
 |dw ds=>show D.dw (D.pJ [] ds)=_;rw[Zkg]
 |agg cs=>exact zb (.agg cs)
 |gp f cs=>exact Wk (.gp f cs)
 |_=>rfl
theorem oC{env:List (Nat×D)}{t:Nat}:look (rV [] env) t=look env t:=by rw[BD,yb]
theorem Zqb(hT:Q4 P T)(hG:jD P G){K:St->Prop}(h:lN T G N M o st K):
 ∃ks val R' iG,(∀t,look iG t=look (rV ks st.env) t)/\(∀t,o.dst=some t->t<N)/\K ⟨rW iG o.dst val,R'⟩/\pD P G M o (cq st.env) st.rows ks val R':=by
 have plain:(rY G o.op=Ga o.op)->(gr T o.op (cq st.env) st.rows λd R=>st.put N o.dst d R K)->∃ks val R' iG,(∀t,look iG t=look (rV ks st.env) t)/\(∀t,o.dst=some t->t<N)/\K ⟨rW iG o.dst val,R'⟩/\pD P G M o (cq st.env) st.rows ks val R':=by
  intro hw h
  obtain⟨val,R',hK,hO⟩:=M5 hT o _ _ _ h
  obtain⟨h1,h2⟩:=oE hK
  refine⟨[],_,_,st.env,λt=>oC.symm,h1,h2,?_⟩
  split at hO
  ·rename_i hs
   exact BC (hw.trans hs) (λk hk=>by simp[da]at hk) hO.toK
  ·rename_i hs
   exact AM (by rw[hw];simpa using hs) hO
 unfold lN at h
 split at h
 ·rename_i cc x y ho
  split at h
  ·rename_i b hb
   have hw:rY G o.op=false:=by rw[ho];rfl
   have go:∀z,z∈o.op.operands->(∀c w (a:Act),Rep c w (cq st.env cc) (a.eval cc)->(execOp a.eval o).run P w=.ok (.value (a.eval z)) w)->(cq st.env z).force (λd=>st.put N o.dst d st.rows K)->
    ∃ks val R' iG,(∀t,look iG t=look (rV ks st.env) t)/\(∀t,o.dst=some t->t<N)/\K ⟨rW iG o.dst val,R'⟩/\pD P G M o (cq st.env) st.rows ks val R':=by
    intro z hz il h
    rw[D.c7]at h
    obtain⟨h1,h2⟩:=oE h
    exact⟨[],_,_,st.env,λt=>oC.symm,h1,h2,AM hw (mG λc w a hm hA eh=>⟨_,il c w a (eh cc (by rw[ho];simp[Op.operands])),eh z hz⟩)⟩
   cases b with
   |true=>
    refine go x (by rw[ho];simp[Op.operands]) (λc w a hc=>?_) h
    rw[hb]at hc
    simp only[execOp,ho,Rep.bool.1 hc,asBool,Sem.run_bind,Sem.run_pure,Result.andThen_ok,if_true]
   |false=>
    refine go y (by rw[ho];simp[Op.operands]) (λc w a hc=>?_) h
    rw[hb]at hc
    simp only[execOp,ho,Rep.bool.1 hc,asBool,Sem.run_bind,Sem.run_pure,Result.andThen_ok,aA,if_false]
  ·exact h.elim
 ·rename_i f args dj ho
  obtain⟨dst,op,type,pos,after,guard⟩:=o
  simp only at ho
  subst ho
  split at h
  ·rename_i lM
   split at h
   rotate_left
   ·rename_i Ej
    obtain⟨ks,val,R',x,hK,hx,hM,hO⟩:=yS (dst:=dst) (type:=type) (pos':=pos) (after:=after) (guard:=guard) (dj:=dj) hG lM h
    rw[HQ]at hK
    obtain⟨h1,h2⟩:=oE hK
    refine⟨ks,_,_,_,λt=>rfl,h1,h2,BC ?_ hM hO⟩
    have Ej:x.oZ=true:=by simpa[Z9,hx]using Ej
    cases pE:x.refs with
    |nil=>simp only[rY,hx,pE,Ej]
    |cons b bs=>simp only[rY,hx,pE]
   rename_i Ej
   have HR:∀x,oF G f=some x->x.oZ=false:=λx hx=>by simpa[Z9,hx]using Ej
   obtain⟨val,R',x,hK,hx,hO,hN⟩:=Wh (dst:=dst) (type:=type) (pos':=pos) (after:=after) (guard:=guard) (dj:=dj) hG lM h
   obtain⟨h1,h2⟩:=oE hK
   refine⟨[],_,_,st.env,λt=>oC.symm,h1,h2,?_⟩
   cases hr:x.refs with
   |nil=>exact AM (by simp only[rY,hx,hr,HR x hx]) (hN hr)
   |cons b bs=>exact BC (by simp only[rY,hx,hr]) (λk hk=>by simp[da]at hk) hO.toK
  ·rename_i k lM
   obtain⟨hy,h⟩:=dd.1 h
   obtain⟨ks,val,R',x,hK,hx,hr,hM,hO⟩:=Zqt hG (lE hy) (dst:=dst) (type:=type) (pos':=pos) (after:=after) (guard:=guard) (dj:=dj) lM h
   rw[HQ]at hK
   obtain⟨h1,h2⟩:=oE hK
   refine⟨ks,_,_,_,λt=>rfl,h1,h2,BC ?_ hM hO⟩
   cases pE:x.refs with
   |nil=>exact(hr pE).elim
   |cons b bs=>simp only[rY,hx,pE]
 ·rename_i t args dj ho
  obtain⟨dst,op,type,pos,after,guard⟩:=o
  simp only at ho
  subst ho
  split at h
  ·rename_i f cs ht
   split at h
   ·rename_i lM
    split at h
    ·obtain⟨val,R',hK,hO⟩:=Ztd (dst:=dst) (type:=type) (pos':=pos) (after:=after) (guard:=guard) (dj:=dj) hG lM ht h
     obtain⟨h1,h2⟩:=oE hK
     exact⟨[],_,_,st.env,λt=>oC.symm,h1,h2,BC rfl (λk hk=>by simp[da]at hk) hO⟩
    ·exact h.elim
   ·rename_i k lM
    obtain⟨rU,h⟩:=dd.1 h
    obtain⟨ks,val,R',hK,hM,hO⟩:=qb (dst:=dst) (type:=type) (pos':=pos) (after:=after) (guard:=guard) (dj:=dj) hG rU lM ht h
    rw[HQ]at hK
    obtain⟨h1,h2⟩:=oE hK
    exact⟨ks,_,_,_,λt=>rfl,h1,h2,BC rfl hM hO⟩
  ·exact h.elim
 ·rename_i args dj ho
  obtain⟨dst,op,type,pos,after,guard⟩:=o
  simp only at ho
  subst ho
  split at h
  ·rename_i x y t tx hx ht
   have fu:args= #[x,y]:=by rw[<-bW (xs:=args),hx]
   have ua:dj= #[t,tx]:=by rw[<-bW (xs:=dj),ht]
   subst fu;subst ua
   obtain⟨ks,R',hK,hM,hr⟩:=Zpu (ty:=type) hT h
   rw[HQ]at hK
   obtain⟨h1,h2⟩:=oE hK
   refine⟨ks,_,_,_,λt=>rfl,h1,h2,BC rfl hM λc w a hm hb hR eh K' Q pX=>?_⟩
   obtain⟨v',w',c',il,hn,j7,hv⟩:=hr c w _ _ hm hb hR (eh x (by simp[Op.operands,Call.operands])) (eh y (by simp[Op.operands,Call.operands]))
   refine Gb ?_ (pX v' w' c' hn j7 hv)
   simp only[execOp,resolve,Sem.run_bind,Sem.run_pure,Result.andThen_ok,invoke,builtin]
   have:(#[x,y]:Array Operand).map a.eval= #[a.eval x,a.eval y]:=by simp
   rw[this,il];rfl
  ·exact h.elim
 ·rename_i args dj ho
  obtain⟨dst,op,type,pos,after,guard⟩:=o
  simp only at ho
  subst ho
  split at h
  ·rename_i x y t tx hx ht
   have fu:args= #[x,y]:=by rw[<-bW (xs:=args),hx]
   have ua:dj= #[t,tx]:=by rw[<-bW (xs:=dj),ht]
   subst fu;subst ua
   obtain⟨val,R',hK,hr⟩:=za (ty:=type) hT h
   obtain⟨h1,h2⟩:=oE hK
   refine⟨[],_,_,st.env,λt=>oC.symm,h1,h2,BC rfl (λk hk=>by simp[da]at hk) (Ek.toK λc w a hm hb hR eh K' Q pX=>?_)⟩
   obtain⟨v',w',c',il,hn,j7,hv⟩:=hr c w _ _ hm hR (eh x (by simp[Op.operands,Call.operands])) (eh y (by simp[Op.operands,Call.operands]))
   refine Gb ?_ (pX v' w' c' hn j7 hv)
   simp only[execOp,resolve,Sem.run_bind,Sem.run_pure,Result.andThen_ok,invoke,builtin]
   have:(#[x,y]:Array Operand).map a.eval= #[a.eval x,a.eval y]:=by simp
   rw[this,il];rfl
  ·exact h.elim
 ·rename_i args dj ho
  split at h
  ·rename_i x y hx
   obtain⟨val,hK,hr⟩:=Zr2 h
   obtain⟨h1,h2⟩:=oE hK
   refine⟨[],_,_,st.env,λt=>oC.symm,h1,h2,AM (by rw[ho];rfl) (mG λc w a hm hA eh=>?_)⟩
   have fu:args= #[x,y]:=by rw[<-bW (xs:=args),hx]
   subst fu
   obtain⟨u,hu,hv⟩:=hr P c w _ _ (eh x (by rw[ho];simp[Op.operands,Call.operands])) (eh y (by rw[ho];simp[Op.operands,Call.operands]))
   refine⟨u,?_,hv⟩
   simp only[execOp,ho,resolve,Sem.run_bind,Sem.run_pure,Result.andThen_ok,invoke,builtin]
   have:(#[x,y]:Array Operand).map a.eval= #[a.eval x,a.eval y]:=by simp
   rw[this]
   have hu:=hu.1 rfl dj o.type
   rw[hu];rfl
  ·exact h.elim
 ·rename_i args dj ho
  split at h
  ·rename_i x y hx
   obtain⟨val,hK,hr⟩:=Zr2 h
   obtain⟨h1,h2⟩:=oE hK
   refine⟨[],_,_,st.env,λt=>oC.symm,h1,h2,AM (by rw[ho];rfl) (mG λc w a hm hA eh=>?_)⟩
   have fu:args= #[x,y]:=by rw[<-bW (xs:=args),hx]
   subst fu
   obtain⟨u,hu,hv⟩:=hr P c w _ _ (eh x (by rw[ho];simp[Op.operands,Call.operands])) (eh y (by rw[ho];simp[Op.operands,Call.operands]))
   refine⟨u,?_,hv⟩
   simp only[execOp,ho,resolve,Sem.run_bind,Sem.run_pure,Result.andThen_ok,invoke,builtin]
   have:(#[x,y]:Array Operand).map a.eval= #[a.eval x,a.eval y]:=by simp
   rw[this]
   have hu:=hu.2 rfl dj o.type
   rw[hu];rfl
  ·exact h.elim
 ·rename_i s d x ho
  split at h
  ·rename_i e _ _ _ _ _ _ hs
   obtain⟨val,hK,hr⟩:=qH hT hs h
   obtain⟨h1,h2⟩:=oE hK
   refine⟨[],_,_,st.env,λt=>oC.symm,h1,h2,AM (by rw[ho];rfl) (mG λc w a hm hA eh=>?_)⟩
   obtain⟨u,hu,hv⟩:=hr c w _ hm hA (eh x (by rw[ho];simp[Op.operands]))
   refine⟨u,?_,hv⟩
   simp only[execOp,ho]
   rw[Sem.run_bind,hu];rfl
  ·rw[<-ho]at h
   exact plain (by rw[ho];rfl) h
 ·rename_i op t x y ty ho
  split at h
  ·rename_i s es fr hx hy
   obtain⟨hK,hr⟩:=vG hT h
   obtain⟨h1,h2⟩:=oE hK
   refine⟨[],_,_,st.env,λt=>oC.symm,h1,h2,AM (by rw[ho];rfl) (mG λc w a hm hA eh=>?_)⟩
   have q1:=eh x (by rw[ho];simp[Op.operands])
   have q2:=eh y (by rw[ho];simp[Op.operands])
   rw[hx]at q1;rw[hy]at q2
   obtain⟨u,hu,hv⟩:=hr s fr c w _ _ q1 q2
   refine⟨u,?_,hv⟩
   simp only[execOp,ho]
   rw[Sem.run_bind,hu x y];rfl
  ·rename_i r hx hy
   split at h
   ·rename_i bx jW j9 es hR
    obtain⟨hK,hr⟩:=ya hT hR h
    obtain⟨h1,h2⟩:=oE hK
    refine⟨[],_,_,st.env,λt=>oC.symm,h1,h2,AM (by rw[ho];rfl) (mG λc w a hm hA eh=>?_)⟩
    have q1:=eh x (by rw[ho];simp[Op.operands])
    have q2:=eh y (by rw[ho];simp[Op.operands])
    rw[hx]at q1;rw[hy]at q2
    obtain⟨u,hu,hv⟩:=hr c w _ _ hm hA q1 q2
    refine⟨u,?_,hv⟩
    simp only[execOp,ho]
    rw[Sem.run_bind,hu x y];rfl
   ·exact h.elim
  ·rw[<-ho]at h
   exact plain (by rw[ho];rfl) h
 ·rename_i op n1 n2 n9 n3 n4 n5 n6 n7 n8
  refine plain ?_ h
  unfold rY
  split
  ·rename_i rG;rw[rG];rfl
  ·rename_i rG;exact(n2 _ _ _ rG).elim
  ·rename_i rG;exact(n9 _ _ _ rG).elim
  ·rename_i rG;exact(n3 _ _ rG).elim
  ·rename_i rG;exact(n4 _ _ rG).elim
  ·rename_i m1 m2 m5 m3 m4
   cases rG:o.op<;>first|rfl|exact(m1 _ _ _ rG).elim
theorem Sy(h:look st.env g=.bool b)(t:Nat):look (st.jX (.tmp g) b).env t=look st.env t:=by
 simp only[St.jX,AK]
 split
 ·rename_i e;subst e;exact h.symm
 ·rfl
theorem Zs3{env mh:List (Nat×D)}(h:∀t,look mh t=look env t):cq mh=cq env:=by
 funext x;cases x<;>first|exact h _|rfl
theorem VY(hT:Q4 P T)(hG:jD P G){l:List Oper}{K:St->Prop}(h:lV T G N M ops (o::l) st K):
 ∃ks val R' iG,(∀t,look iG t=look (rV ks st.env) t)/\(∀t,o.dst=some t->t<N)/\nu P G M ops o st.env st.rows ks val R'/\lV T G N M ops l ⟨rW iG o.dst val,R'⟩ K:=by
 simp only[lV]at h
 split at h
 ·rename_i hg
  obtain⟨ks,val,R',iG,h0,h1,h2,h3⟩:=Zqb hT hG h
  exact⟨ks,val,R',iG,h0,h1,by unfold nu;rw[hg];exact h3,h2⟩
 ·rename_i j want hg
  split at h
  ·rename_i g hd
   split at h
   ·rename_i b hb
    have yes:∀b',b'=b->lN T G N M o (st.jX (.tmp g) b') (λst=>lV T G N M ops l st K)->b=want->∃ks val R' iG,(∀t,look iG t=look (rV ks st.env) t)/\(∀t,o.dst=some t->t<N)/\nu P G M ops o st.env st.rows ks val R'/\lV T G N M ops l ⟨rW iG o.dst val,R'⟩ K:=by
     intro b' e hh hw
     subst e
     obtain⟨ks,val,R',iG,h0,h1,h2,h3⟩:=Zqb hT hG hh
     rw[Zs3 (Sy hb)]at h3
     refine⟨ks,val,R',iG,λt=>by rw[h0,BD,BD,Sy hb],h1,?_,h2⟩
     unfold nu;rw[hg]
     exact⟨g,hd,.inl ⟨_,hb,by rw[if_pos hw];exact h3⟩⟩
    have no:∀b',b'=b->(st.jX (.tmp g) b').put N o.dst (.dw []) st.rows (λst=>lV T G N M ops l st K)->b≠want->∃ks val R' iG,(∀t,look iG t=look (rV ks st.env) t)/\(∀t,o.dst=some t->t<N)/\nu P G M ops o st.env st.rows ks val R'/\lV T G N M ops l ⟨rW iG o.dst val,R'⟩ K:=by
     intro b' e hh hw
     subst e
     obtain⟨h1,h2⟩:=oE hh
     refine⟨[],_,_,_,λt=>by rw[oC,Sy hb],h1,?_,h2⟩
     unfold nu;rw[hg]
     exact⟨g,hd,.inl ⟨_,hb,by rw[if_neg hw];exact⟨rfl,rfl,rfl⟩⟩⟩
    cases b<;>cases want<;>simp only[w7]at h
    ·exact yes _ rfl h rfl
    ·exact no _ rfl h (by simp)
    ·exact no _ rfl h (by simp)
    ·exact yes _ rfl h rfl
   ·rename_i hb
    obtain⟨h1,h2⟩:=oE h
    refine⟨[],_,_,st.env,λt=>oC.symm,h1,?_,h2⟩
    unfold nu;rw[hg]
    exact⟨g,hd,.inr ⟨hb,rfl,rfl,rfl⟩⟩
   ·exact h.elim
  ·exact h.elim
theorem Ss{c:Ctx}(hg:o.guard=some (j,want))(hd:(ops[j]?).bind (·.dst)=some g)(h:Rep c w (.dw []) (a.tmps.getD g undef)):
 Region.wanted o (yielded ops a.tmps)=false:=by
 obtain⟨vs,hv,BE⟩:=h
 have hy:yielded ops a.tmps j=none:=by
  simp only[yielded,hd,aW]
  cases hx:a.tmps[g]? with
  |none=>rfl
  |some v=>
   have:a.tmps.getD g undef=v:=by simp[hx]
   rw[this]at hv
   rw[hv]
 unfold Region.wanted
 rw[hg]
 simp only[hy]
 rfl
theorem Sr(c:Ctx)(w:World):Rep c w (.dw []) undef:=⟨[],rfl,trivial⟩
theorem Su{c:Ctx}(hg:o.guard=some (j,want))(hd:(ops[j]?).bind (·.dst)=some g)(h:Rep c w (.bool b) (a.tmps.getD g undef)):
 Region.wanted o (yielded ops a.tmps)=decide (b=want):=by
 have hv:=Rep.bool.1 h
 have ht:a.tmps[g]?=some (.bool b):=by
  cases hx:a.tmps[g]? with
  |none=>simp[hx,undef]at hv
  |some v=>simp[hx]at hv;rw[hv]
 unfold Region.wanted
 simp only[hg,yielded,hd,aW,ht]
 cases b<;>cases want<;>rfl
def wpOp(P:Program)(ops:Array Oper)(Q:Exit->Act->World->Prop)(i:Nat)(K:Act->World->Prop)(a:Act)(w:World):Prop:=
 match ops[i]? with
 |none=>K a w
 |some o=>if Region.wanted o (yielded ops a.tmps)then o.nd P a w K Q else K (a.put o.dst undef) w
def Kb(P:Program)(ops:Array Oper)(Q:Exit->Act->World->Prop):List Nat->Act->World->Prop
 |[],a,w=>Q .normal a w
 |i::rest,a,w=>wpOp P ops Q i (Kb P ops Q rest) a w
theorem Zc5(i:Nat)(rest:List Nat)(a:Act)(w:World):Kb P ops Q (i::rest) a w=wpOp P ops Q i (Kb P ops Q rest) a w:=rfl
def HL(P:Program)(md:Region.Mode)(ops:Array Oper)(Q:Exit->Act->World->Prop):Nat->Array Bool->Act->World->Prop
 |0,au,a,w=>Region.ready md ops au=[]/\Q .normal a w
 |fuel+1,au,a,w=>
  (Region.ready md ops au=[]->Q .normal a w)/\
  ∀i∈Region.ready md ops au,wpOp P ops Q i (HL P md ops Q fuel (au.setIfInBounds i true)) a w
abbrev AN(ro:Option Nat):Fence:={Fence.wide with round:=ro}
theorem vX{P:Program}{ro:Option Nat}{o:Oper}{a:Act}{w:World}{K:Act->World->Prop}{Q Q':Exit->Act->World->Prop}(h:o.nd P a w K Q):o.wpIn (AN ro) 0 P a w K Q':=by
 refine⟨λ_ _=>trivial,?_⟩
 have hd:∀c,o.op≠.defer c:=by
  intro c hc
  unfold Oper.nd at h
  simp only[execOp,hc,Sem.run_bind]at h
  revert h
  cases(resolve a.eval c o.type).run P w with
  |halt _ _=>exactλh=>h
  |ok d w'=>exactλh=>h
 rw[Oper.semAt_eq _ _ _ hd]
 unfold Oper.nd at h
 revert h
 generalize(execOp a.eval o).run P w=r
 intro h
 cases r with
 |halt _ _=>exact h.elim
 |ok n w'=>
  cases n with
  |value v=>exact h
  |skip=>exact h
  |enter f args=>
   refine⟨λe=>(by cases e),?_⟩
   refine CallsIn.mono (F:=Fence.wide) (callsIn_wide.2 h) λe w' ⟨v,he,hk⟩=>?_
   subst he;exact hk
  |round l f tmps assign body=>
   refine⟨λe=>(by cases e),?_⟩
   refine RoundIn.mono (F:=Fence.wide) h λe w' ⟨v,he,hk⟩=>?_
   subst he;exact hk
  |_=>exact h.elim
theorem Sz{P:Program}{ro:Option Nat}{ops:Array Oper}{Q:Exit->Act->World->Prop}:∀{l:List Nat} {a:Act} {w:World},Kb P ops Q l a w->wpOpsIn (AN ro) 0 P ops Q l a w
 |[],_,_,h=>h
 |i ::l,a,w,h=>by
  rw[Zc5]at h
  unfold wpOp at h
  unfold wpOpsIn
  split
  ·rename_i ho;simp only[ho]at h;exact Sz h
  ·rename_i o ho
   simp only[ho]at h
   split
   ·rename_i hw;rw[if_pos hw]at h;exact vX (Q:=Q) (Wl (Q':=Q) (λa w h=>Sz h) h)
   ·rename_i hw;rw[if_neg hw]at h;exact⟨λ_ _=>trivial,Sz h⟩
theorem SA{P:Program}{ro:Option Nat}{md:Region.Mode}{ops:Array Oper}{Q:Exit->Act->World->Prop}:∀{n:Nat} {au:Array Bool} {a:Act} {w:World},HL P md ops Q n au a w->wpAnyIn (AN ro) 0 P md ops Q n au a w
 |0,_,_,_,h=>h
 |n +1,au,a,w,h=>by
  refine⟨h.1,λi hi=>?_⟩
  have h:=h.2 i hi
  unfold wpOp at h
  unfold wpOpIn
  split
  ·rename_i ho;simp only[ho]at h;exact SA h
  ·rename_i o ho
   simp only[ho]at h
   split
   ·rename_i hw;rw[if_pos hw]at h;exact vX (Q:=Q) (Wl (Q':=Q) (λa w h=>SA h) h)
   ·rename_i hw;rw[if_neg hw]at h;exact⟨λ_ _=>trivial,SA h⟩
theorem Ziz(h:Kb P ops Q (List.range ops.size) a w):(Code.region id ops false).wpIn (AN ro) 0 P Q a w:=wpIn_region (Sz h)
theorem Qya(hm:P.follows .mixedOrders=true)
 (h:HL P .any ops Q ops.size (Array.replicate ops.size false) a {w with drawn:=w.drawn+1}):(Code.region id ops true).wpIn (AN ro) 0 P Q a w:=wpIn_region_any hm (SA h)
theorem qY{c0:Ctx}{c:Ctx}{iG:List (Nat×D)}(hi:ops[i]?=some o)
 (hs:fi N M c0 w0 c w st a) (h1:∀t,look iG t=look (rV ks st.env) t) (hd:∀t,o.dst=some t->t<N) (hG:nu P G M ops o st.env st.rows ks val R') {K:Act->World->Prop} {Q:Exit->Act->World->Prop}
 (hK:∀a' w' c',fi N M c0 w0 c' w' ⟨rW iG o.dst val,R'⟩ a'->K a' w'):wpOp P ops Q i K a w:=by
 have fin:(∀k,da k ks=true->M<=k)->∀(v:Value) (w':World) (c':Ctx),jN ks c w c' w'->(∀r,c'.R r=R'.getD r none)->Rep c' w' val v->K (a.put o.dst v) w':=λhM v w' c' hn hR hv=>by
  refine hK _ _ c' ⟨hn.mem,hR,?_,?_,?_,hs.fx,hs.gv,hs.reach.step hM hs.gv hn⟩
  ·exact Zck hs.size hd (λt=>by rw[h1,BD];exact wX hn.cy (Wm (hs.env t))) hv
  ·cases ho:o.dst<;>simp[Act.put]<;>exact hs.size
  ·exact lX.put (hs.defers.step hs.mem hn.fr)
 have run:pD P G M o (cq st.env) st.rows ks val R'->o.nd P a w K Q:=λhX=>hX.toK.2 c w a hs.mem hs.base hs.rows (λx _=>M1 hs.env x) K Q (fin hX.toK.1)
 have skip:ks=[]->val=.dw []->R'=st.rows->K (a.put o.dst undef) w:=λe0 e1 e2=>by
  refine hK _ _ c ⟨hs.mem,by rw[e2];exact hs.rows,?_,?_,?_,hs.fx,hs.gv,hs.reach⟩
  ·exact Zck hs.size hd (λt=>by rw[h1,e0,oC];exact hs.env t) (by rw[e1];exact Sr _ _)
  ·cases ho:o.dst<;>simp[Act.put]<;>exact hs.size
  ·exact lX.put hs.defers
 unfold wpOp
 simp only[hi]
 unfold nu at hG
 cases hg:o.guard with
 |none=>
  simp only[hg]at hG
  have hw:Region.wanted o (yielded ops a.tmps)=true:=by simp[Region.wanted,hg]
  rw[if_pos hw]
  exact run hG
 |some jw=>
  obtain⟨j,want⟩:=jw
  simp only[hg]at hG
  obtain⟨g,h2,⟨b,h3,h4⟩|⟨h3,e0,e1,e2⟩⟩:=hG
  rotate_left
  ·have hr:=hs.env g
   rw[h3]at hr
   rw[if_neg (by rw[Ss (o:=o) hg h2 hr];simp)]
   exact skip e0 e1 e2
  have hr:=hs.env g
  rw[h3]at hr
  have hw:=Su (o:=o) hg h2 hr
  by_cases e:b=want
  ·rw[if_pos e]at h4
   rw[if_pos (by rw[hw];simpa using e)]
   exact run h4
  ·rw[if_neg e]at h4
   rw[if_neg (by rw[hw];simpa using e)]
   exact skip h4.1 h4.2.1 h4.2.2
theorem xY{P:Program}{T:iy}(hT:Q4 P T){G:List bd}(hG:jD P G){N M:Nat}{ops:Array Oper}{c0:Ctx}{w0:World}{K:St->Prop}{Q:Exit->Act->World->Prop}(hQ:∀st c w a,K st->fi N M c0 w0 c w st a->Q .normal a w):
 ∀(l:List Oper) (k:Nat) (st:St) (c:Ctx) (w:World) (a:Act),ops.toList.drop k=l->lV T G N M ops l st K->fi N M c0 w0 c w st a->Kb P ops Q (bO k l.length) a w
 |[],k,st,c,w,a,_,h,hs=>hQ st c w a h hs
 |o ::l,k,st,c,w,a,hk,h,hs=>by
  have bh:k<ops.toList.length:=by
   by_cases bh:k<ops.toList.length
   ·exact bh
   ·rw[List.drop_eq_nil_of_le (by omega)]at hk;cases hk
  rw[List.drop_eq_getElem_cons bh]at hk
  have ho:ops[k]?=some o:=by
   have:=(List.cons.inj hk).1
   rw[<-this]
   simp at bh
   simp[bh]
  obtain⟨ks,val,R',iG,h1,h2,h3,h4⟩:=VY hT hG h
  simp only[List.length_cons,List.range'_succ]
  rw[Zc5]
  exact qY ho hs h1 h2 h3 λa' w' c' iU=>xY hT hG hQ l (k+1) _ c' w' a' (List.cons.inj hk).2 h4 iU
def mN:Exit->Option Ex
 |.normal=>some .normal
 |.exit i=>some (.exit i)
 |.ret=>some .ret
 |_=>none
def tN(ro:Option Nat)(P:Program)(N M:Nat)(code:Code)(st:St)(Q:Ex->St->Prop):Prop:=
 ∀ (c0:Ctx) (w0:World) (c:Ctx) (w:World) (a:Act),fi N M c0 w0 c w st a->
  code.wpIn (AN ro) 0 P (λe a' w'=>∃ex jq c',mN e=some ex/\Q ex jq/\fi N M c0 w0 c' w' jq a') a w
abbrev Tr:=tN none
def Ctx.oZ(c:Ctx)(R:Rows)(ks:List Nat):Ctx:=
 {c with R:=λr=>if da r ks=true then none else(c.R r).map (Row.mi R ks),I:=λb=>c.I b\/∃r row,da r ks=true/\c.R r=some row/\¬c.V r/\c.ρ r=b}
section
variable {c:Ctx} {w:World} {R:Rows} {ks:List Nat}
theorem Zl5(R:Rows)(ks:List Nat)(row:Row):(row.mi R ks).box=row.box/\(row.mi R ks).ty=row.ty/\(row.mi R ks).sz=row.sz/\(row.mi R ks).es.l.length=row.es.l.length:=by
 unfold Row.mi;split<;>exact⟨rfl,rfl,rfl,rfl⟩
theorem Z73:∀{e:List D},(D.sj R ks e).length=e.length
 |[]=>rfl
 |d::l=>by simp[D.sj,Z73 (e:=l)]
theorem Zkb:jc (c.kill ks) w (c.oZ R ks) w:=by
 refine⟨rfl,aX _,λb h=>⟨.inl h,rfl⟩,λr x hx=>?_⟩
 obtain⟨h1,row,h2,rfl⟩:=na hx
 obtain⟨s1,s2,s3,s4⟩:=Zl5 R ks row
 obtain⟨k1,k2,k3,k4⟩:=u5 ks row
 refine⟨row.mi R ks,?_,s1.trans k1.symm,s2.trans k2.symm,s3.trans k3.symm,s4.trans k4.symm,rfl,Iff.rfl,λ_ arr h=>⟨arr,h,rfl⟩⟩
 show(if da r ks=true then none else(c.R r).map (Row.mi R ks))=_
 rw[h1,h2];rfl
theorem Z2t:∀{ds:List D} {arr:Array Value} {off:Nat},ds.all D.plain=true->kJ c w ds arr off->oG c.I w ds arr off
 |[],_,_,_,_=>Du.2 trivial
 |d::ds,arr,off,hp,⟨⟨v,hv,h1⟩,h2⟩=>by
  rw[List.all_cons,aE]at hp
  exact Dv.2 ⟨⟨v,hv,dc.plain hp.1 h1⟩,Z2t hp.2 h2⟩
variable (hm:Mem c w) (hA:∀r,c.R r=R.getD r none)
include hm hA
theorem Wn(h:dc c w d v):dc (c.oZ R ks) w (d.BF R ks) v:=by
 have HS:∀{d:D},dc c w d v->dc (c.oZ R ks) w (d.fc ks) v:=λh=>SB Zkb (SC h)
 cases d with
 |all r=>
  simp only[D.BF]
  cases hb:da r ks with
  |false=>
   have:=HS h
   simpa only[D.fc,hb]using this
  |true=>
   obtain⟨row,g1,g2,hv⟩:=h
   have hr:R.getD r none=some row:=by rw[<-hA r];exact g1
   obtain⟨box,ty,sz,es⟩:=row
   simp only at g2
   subst g2
   simp only[hr]
   rcases hv with⟨hV,a,hv,_⟩|⟨hV,cap,arr,hv,g3,g4,g5,g6⟩
   ·have he:=(hm.nm g1 hV).2.1
    simp only at he
    exact⟨a,0,by rw[he];exact hv,by rw[he];exact aX _,.inl he⟩
   ·obtain⟨iJ,jE,hs,hx⟩:=hm.real g1 hV
    simp only at g5 jE hx
    rw[g5]at jE;cases jE
    simp only[aA,if_false]at hx
    exact⟨_,cap,hv,g3,.inr ⟨_,0,arr,_,_,rfl,.inr ⟨r,_,hb,g1,hV,rfl⟩,by simp,g5,nq (λb hb=>⟨.inl hb,rfl⟩) _ _ _ _ hx⟩⟩
 |ptr r i off=>
  simp only[D.BF]
  cases hb:da r ks with
  |false=>
   have:=HS h
   simpa only[D.fc,hb]using this
  |true=>
   obtain⟨row,g1,g2,g3,hv⟩:=h
   have hr:R.getD r none=some row:=by rw[<-hA r];exact g1
   simp only
   split
   ·rename_i ty sz e he
    rw[he]at hr;cases hr
    split
    ·rename_i hp
     obtain⟨arr,ha,hs,hx⟩:=hm.real g1 g2
     simp only[if_true]at hx
     obtain⟨e',k1,k2,k3,k4⟩:=hx
     have k1:[e]=[e']:=by injection k1
     have k1:e=e':=(List.cons.inj k1).1
     subst k1
     refine⟨c.ρ r,0,arr,ty,(0,0),?_,.inr ⟨r,_,hb,g1,g2,rfl⟩,g3,ha,pK.2 ⟨k2,Znh (λb hb=>⟨.inl hb,rfl⟩) _ _ _ (Z2t hp k4),pY.2 trivial⟩⟩
     rw[hv];simp
    ·rw[hv];rfl
   ·rw[hv];rfl
 |_=>exact HS h
theorem Zr3:∀{ds:List D} {vs:List Value},jl c w ds vs->jl (c.oZ R ks) w (D.sj R ks ds) vs
 |[],[],_=>trivial
 |_::_,_::_,h=>⟨Wn hm hA h.1,Zr3 h.2⟩
 |[],_::_,h=>h.elim
 |_::_,[],h=>h.elim
theorem Zqf(h:VRep c w d v):VRep (c.oZ R ks) w (d.HT R ks) v:=by
 cases d with
 |agg cs=>obtain⟨vs,hv,hr⟩:=h;exact⟨vs,hv,Zr3 hm hA hr⟩
 |_=>
  have:=Wn (ks:=ks) hm hA (VRep.toC (λcs e=>by cases e) h)
  exact VRep.Ei this
theorem Zpa:∀{ds:List D} {vs:List Value},kg c w ds vs->kg (c.oZ R ks) w (D.HU R ks ds) vs
 |[],[],_=>trivial
 |_::_,_::_,h=>⟨Zqf hm hA h.1,Zpa h.2⟩
 |[],_::_,h=>h.elim
 |_::_,[],h=>h.elim
theorem zH(h:Rep c w d v):Rep (c.oZ R ks) w (d.BG R ks) v:=by
 cases d with
 |dw ds=>obtain⟨vs,hv,hr⟩:=h;exact⟨vs,hv,Zpa hm hA hr⟩
 |dead=>trivial
 |_=>
  have:=Zqf (ks:=ks) hm hA (Rep.toV (λds e=>by cases e) (λe=>by cases e) h)
  exact Rep.J9 this
theorem Zj8:∀{ds:List D} {arr:Array Value} {off:Nat},kJ c w ds arr off->kJ (c.oZ R ks) w (D.sj R ks ds) arr off
 |[],_,_,_=>trivial
 |_::_,_,_,⟨⟨v,hv,h1⟩,h2⟩=>⟨⟨v,hv,Wn hm hA h1⟩,Zj8 h2⟩
theorem xac(h:El c w r row):El (c.oZ R ks) w r (row.mi R ks):=by
 obtain⟨s1,s2,s3,s4⟩:=Zl5 R ks row
 rcases h with⟨h0,h1,h2,h3⟩|⟨h0,arr,ha,hs,hx⟩
 ·refine .inl ⟨h0,s1.trans h1,?_,by rw[s3];exact h3⟩
  rw[h2]at s4;exact List.eq_nil_of_length_eq_zero s4
 ·refine .inr ⟨h0,arr,by rw[s2];exact ha,by rw[s3];exact hs,?_⟩
  rw[s1,s3]
  split
  ·rename_i hb
   simp only[hb,if_true]at hx
   obtain⟨e,k1,k2,k3,k4⟩:=hx
   obtain⟨box,ty,sz,es⟩:=row
   simp only at hb k1 k2 k3 k4
   subst hb;subst k1
   exact⟨D.sj R ks e,rfl,by rw[Z73];exact k2,k3,Zj8 hm hA k4⟩
  ·rename_i hb
   simp only[hb,aA,if_false]at hx
   have he:(row.mi R ks).es=row.es:=by
    unfold Row.mi
    split
    ·simp at hb
    ·rfl
   rw[he];exact nq (λb hb=>⟨.inl hb,rfl⟩) _ _ _ _ hx
omit hm hA in
theorem Kc{x:Row}(h:(c.oZ R ks).R r=some x):da r ks=false/\∃row,c.R r=some row/\x=row.mi R ks:=by
 simp only[Ctx.oZ]at h
 cases hb:da r ks with
 |true=>rw[hb]at h;simp at h
 |false=>
  rw[hb]at h
  simp only[aA,if_false,Option.map_eq_some_iff]at h
  obtain⟨row,h1,h2⟩:=h
  exact⟨rfl,row,h1,h2.symm⟩
theorem qad:Mem (c.oZ R ks) w:=by
 refine⟨λr x hx=>?_,λr s x y hx hy v1 v2 he=>?_,λb hb=>?_,hm.top,hm.jZ.mono λb hb=>⟨.inl hb,rfl⟩⟩
 ·obtain⟨_,row,h1,rfl⟩:=Kc hx
  exact xac hm hA (hm.row r row h1)
 ·obtain⟨_,row,h1,_⟩:=Kc hx
  obtain⟨_,ao,h2,_⟩:=Kc hy
  exact hm.inj r s row ao h1 h2 v1 v2 he
 ·rcases hb with hb|⟨s,row,h1,h2,h3,rfl⟩
  ·refine⟨(hm.fg b hb).1,λr x hx v=>?_⟩
   obtain⟨_,row,h1,_⟩:=Kc hx
   exact(hm.fg b hb).2 r row h1 v
  ·refine⟨hm.lt h2 h3,λr x hx v e=>?_⟩
   obtain⟨h4,ao,h5,_⟩:=Kc hx
   have:=hm.inj r s ao row h5 h2 v h3 e
   rw[this,h1]at h4;cases h4
end
theorem Zdb{R0:Rows}{ks:List Nat}:∀{R:Rows} {i r:Nat},(Kd R0 ks R i).getD r none=if da (i+r) ks=true then none else(R.getD r none).map (Row.mi R0 ks)
 |[],i,r=>by simp[Kd]
 |x::l,i,0=>by
  simp only[Kd,aB]
  cases da i ks<;>cases x<;>simp
 |x::l,i,r+1=>by
  have:=Zdb (R0:=R0) (ks:=ks) (R:=l) (i:=i+1) (r:=r)
  rw[show i+1+r=i+(r+1) by omega]at this
  simpa[Kd]using this
def ub(R:Rows)(ks:List Nat)(env:List (Nat×D)):List (Nat×D):=env.map λx=>(x.1,x.2.BG R ks)
theorem Zpj{R:Rows}{ks:List Nat}:∀{env:List (Nat×D)} {K:List (Nat×D)->Prop},Em R ks env K↔K (ub R ks env)
 |[],_=>Iff.rfl
 |(t,d)::l,K=>by
  simp only[Em,D.c7]
  rw[Zpj (env:=l) (K:=λl=>K ((t,d.BG R ks)::l))]
  rfl
theorem Zqk{R:Rows}{ks:List Nat}:∀{env:List (Nat×D)} {t:Nat},look (ub R ks env) t=(look env t).BG R ks
 |[],_=>rfl
 |(u,d)::l,t=>by
  simp only[ub,List.map_cons,look]
  split
  ·rfl
  ·exact Zqk (env:=l)
theorem Wo{M:Nat}{R:Rows}:∀{l:List Nat} {r:Nat},r∈uc M R l->M<=r
 |x ::l,r,h=>by
  simp only[uc]at h
  split at h
  ·rename_i hb
   rcases List.mem_cons.1 h with e|h
   ·rw[e];rw[aE]at hb;exact lE hb.1
   ·exact Wo h
  ·exact Wo h
theorem zad{c0:Ctx}{c:Ctx}{K:St->Prop}(h:HV T G M ops st K)(hs:fi N M c0 w0 c w st a):∃jq c',K jq/\fi N M c0 w0 c' w jq a:=by
 unfold HV at h
 split at h
 ·exact⟨st,c,h,hs⟩
 ·rename_i ks hk
  have hM:∀k,da k (uc M st.rows (SD T G st.env st.rows [] [] ops.toList))=true->M<=k:=λk hk=>Wo (nN.1 hk)
  generalize uc M st.rows (SD T G st.env st.rows [] [] ops.toList)=ks at*
  rw[Zpj,nf]at h
  have hm:=qad (ks:=ks) hs.mem hs.rows
  refine⟨_,c.oZ st.rows ks,h,hm,λr=>?_,λt=>?_,hs.size,hs.defers,hs.fx,hs.gv,hs.reach.step (ks:=ks) hM hs.gv ⟨hm,Zkb,Fr.refl _ w,λb hb=>?_,λr ao hr hv=>?_⟩⟩
  ·rw[Zdb,bG,<-hs.rows r];rfl
  ·rw[Zqk];exact zH hs.mem hs.rows (hs.env t)
  ·rcases hb with hb|hb
   ·exact .inl hb
   ·exact .inr (.inl hb)
  ·obtain⟨_,row,h1,_⟩:=Kc hr
   exact .inl ⟨⟨row,h1⟩,hv,rfl⟩
theorem vb{c:Ctx}(hm:Mem c w){e e':List D}(hr:c.R r=some ⟨true,ty,sz,.gen [e]⟩)(hl:e'.length=e.length)(hc:∀arr,kJ c w e arr 0->kJ c w e' arr 0):jc c w (c.jT r ⟨true,ty,sz,.gen [e']⟩) w/\Mem (c.jT r ⟨true,ty,sz,.gen [e']⟩) w:=by
 have hg:jc c w (c.jT r ⟨true,ty,sz,.gen [e']⟩) w:=by
  refine⟨rfl,aX _,λb hb=>⟨hb,rfl⟩,λs x hs=>?_⟩
  by_cases e:s=r
  ·subst e
   rw[hr]at hs;cases hs
   exact⟨⟨true,ty,sz,.gen [e']⟩,by simp[Ctx.jT],rfl,rfl,rfl,rfl,rfl,Iff.rfl,λ_ a ha=>⟨a,ha,rfl⟩⟩
  ·exact⟨x,by simp[Ctx.jT,e,hs],rfl,rfl,rfl,rfl,rfl,Iff.rfl,λ_ a ha=>⟨a,ha,rfl⟩⟩
 have jF:∀s x,(c.jT r ⟨true,ty,sz,.gen [e']⟩).R s=some x->∃x',c.R s=some x':=λs x hs=>by
  by_cases e:s=r
  ·exact⟨_,by rw[e];exact hr⟩
  ·exact⟨x,by simpa[Ctx.jT,e]using hs⟩
 refine⟨hg,λs x hs=>?_,λs q x y hs hq v1 v2 he=>?_,λb ij=>⟨(hm.fg b ij).1,λs x hs hv=>?_⟩,hm.top,hm.jZ⟩
 ·by_cases es:s=r
  ·subst es
   simp only[Ctx.jT,if_true,Option.some.injEq]at hs
   subst hs
   rcases hm.row _ _ hr with⟨g0,g1,g2,g3⟩|⟨g0,arr,g1,g2,g3⟩
   ·cases g1
   ·refine .inr ⟨g0,arr,g1,g2,?_⟩
    simp only[if_true]at g3⊢
    obtain⟨e0,q1,q2,q3,q4⟩:=g3
    cases q1
    exact⟨e',rfl,hl.trans q2,q3,M6 hg (hc arr q4)⟩
  ·have iU:c.R s=some x:=by simpa[Ctx.jT,es]using hs
   exact tk hg rfl Iff.rfl (λ_=>rfl) (hm.row s x iU)
 ·obtain⟨x',jM⟩:=jF s x hs
  obtain⟨y',w5⟩:=jF q y hq
  exact hm.inj s q x' y' jM w5 v1 v2 he
 ·obtain⟨x',jM⟩:=jF s x hs
  exact(hm.fg b ij).2 s x' jM hv
theorem qc(h:ud T R i=some (ty,sz,e,n)):0<n/\∃d,R.getD i none=some ⟨true,ty,sz,.gen [[d]]⟩/\(d=.c8\/d=.emp):=by
 unfold ud at h
 split at h
 ·rename_i jW j9 d hr
  have go:∀{x:Option (TypeId×Nat×TypeId×Nat)},x=some (ty,sz,e,n)->(x=match T.get jW with|some ⟨.slice e n,_,_,_,_,_⟩=>(match bN 0 n with|true=>some (jW,j9,e,n)|false=>none)|_=>none)->0<n/\jW=ty/\j9=sz:=by
   intro x hx hy
   rw[hx]at hy
   split at hy
   ·split at hy
    ·rename_i hb;cases hy;exact⟨lE hb,rfl,rfl⟩
    ·cases hy
   ·cases hy
  split at h
  ·obtain⟨h1,rfl,rfl⟩:=go h rfl
   exact⟨h1,_,hr,.inl rfl⟩
  ·obtain⟨h1,rfl,rfl⟩:=go h rfl
   exact⟨h1,_,hr,.inr rfl⟩
  ·cases h
 ·cases h
theorem Gc{N M:Nat}{c0:Ctx}{w0:World}{w:World}{a:Act}{T:iy}{env:List (Nat×D)}{K:Rows->Prop}:∀{l:List iD} {R:Rows} {c:Ctx},HW T l env R K->fi N M c0 w0 c w ⟨env,R⟩ a->∃R' c',K R'/\fi N M c0 w0 c' w ⟨env,R'⟩ a
 |[],R,c,h,hs=>⟨R,c,h,hs⟩
 |.int _ _::l,R,c,h,hs=>Gc (l:=l) h hs
 |.arr _::l,R,c,h,hs=>Gc (l:=l) h hs
 |.sl _ _ _::l,R,c,h,hs=>Gc (l:=l) h hs
 |.fn _ _::l,R,c,h,hs=>Gc (l:=l) h hs
 |.ptr i _ _::l,R,c,h,hs=>by
  simp only[HW]at h
  split at h
  rotate_left
  ·exact Gc (l:=l) h hs
  rename_i ty sz u n hr
  obtain⟨h0,d,h2,hd⟩:=qc hr
  simp only[nf,Ke]at h
  have bh:i<R.length:=by
   by_cases bh:i<R.length
   ·exact bh
   ·rw[aV,aJ (by omega)]at h2;cases h2
  rw[List.set_append_left _ _ bh]at h
  have hi:c.R i=some ⟨true,ty,sz,.gen [[d]]⟩:=by rw[hs.rows];exact h2
  have hn:c.R R.length=none:=by rw[hs.rows,aV,aJ (aX _)];rfl
  have gu:i≠R.length:=by omega
  have HX:=Wp hs.mem hn (row:=⟨false,u,n,.gen []⟩) rfl rfl h0
  have Wq:=SE (w:=w) hn ⟨false,u,n,.gen []⟩
  have Wr:(c.jv R.length ⟨false,u,n,.gen []⟩).R i=some ⟨true,ty,sz,.gen [[d]]⟩:=by simp[Ctx.jv,gu,hi]
  obtain⟨Ws,BH⟩:=vb (e':=[.all R.length]) HX Wr rfl (λarr hc=>by
   obtain⟨⟨v,hv,h1⟩,_⟩:=hc
   refine⟨⟨v,hv,⟨false,u,n,.gen []⟩,by simp[Ctx.jv],rfl,.inl ⟨.inl rfl,?_⟩⟩,trivial⟩
   rcases hd with rfl|rfl
   ·exact⟨none,h1,Qy⟩
   ·exact h1)
  have hg:=Wq.trans Ws
  have nA:lL c w ((c.jv R.length ⟨false,u,n,.gen []⟩).jT i ⟨true,ty,sz,.gen [[.all R.length]]⟩) w:=by
   refine⟨BH,hg,Fr.refl _ w,λb hb=>.inl hb,λr ao hr hv=>.inl ?_⟩
   have Wt:r≠R.length:=λe=>hv (.inl e)
   by_cases er:r=i
   ·subst er;exact⟨⟨_,hi⟩,λe=>hv (.inr e),rfl⟩
   ·exact⟨⟨ao,by simpa[Ctx.jT,Ctx.jv,er,Wt]using hr⟩,λe=>hv (.inr e),rfl⟩
  refine Gc (l:=l) h ⟨BH,λr=>?_,λt=>wX hg (hs.env t),hs.size,hs.defers,hs.fx,hs.gv,hs.reach.step (ks:=[]) (λk hk=>by simp[da]at hk) hs.gv nA.toK⟩
  simp only[Ctx.jT,Ctx.jv]
  by_cases er:r=i
  ·subst er
   simp[aV,bI (show r<(R.set r _).length by simpa using bh),bh]
  ·rw [if_neg er]
   by_cases en:r=R.length
   ·subst en
    simp[aV]
   ·rw[if_neg en,hs.rows]
    by_cases hl:r<R.length
    ·simp[aV,bI (show r<(R.set i _).length by simpa using hl),List.getElem?_set_ne (Ne.symm er)]
    ·have h1:R.getD r none=none:=by rw[aV,aJ (by omega)];rfl
     rw[h1,aV,aJ (by simp;omega)];rfl
