import Derived.Test.YthjfindbamdacaaGreatDoorAuditAcceptsFk
import Derived.Laws.IdiomStrings
import Derived.Laws.BytesArg
import Derived.Laws.Cover3
import Derived.RangeFuncRecord
import Derived.OrdersIn
import Derived.LoopNIn
open List renaming getD->aK,getElem?_take->aU,getElem?_toArray->aY,getElem?_append_left->aZ,size_toArray->bA,getElem?_append_right->bB,length_take->bD,length_drop->bF,getElem?_eq_none->aM,range'->bK,map_append->bL,map_congr_left->bM,ext_getElem->bN,getElem_map->bO,getElem_range'->bP,map_toArray->bR
open Nat renaming mul_le_mul_right->aV,succ_mul->aW,zero_add->aX,add_mul->bC,le_refl->aO,add_zero->bG,le_trans->bH,lt_of_lt_of_le->bI,blt->bJ
open Bool renaming or_eq_true->aI,false_eq_true->aN
open Array renaming getD->aP,empty_append->bQ,toArray_toList->bS
open Option renaming bind_some->aL
set_option linter.all false
namespace Go.GD
open Go
variable {B M N g i id j k n r sz:Nat}{G:List bf}{I:ag}{K:St->Prop}{P:Program}{Q:Exit->Act->World->Prop}{R R':Rows}{T:iM}{a:Act}{after:Array Edge}{args:Array Operand}{b want:Bool}{cs:List iJ}{d val x:D}{ds:List Deferred}{dst:Option Tmp}{e ty type:TypeId}{ev:Operand->D}{ks:List Nat}{news us:List Value}{o:Oper}{ops:Array Oper}{pos:String}{ro:Option Nat}{row:Row}{st:St}{dh:Array TypeId}{v:Value}{w w' w0:World}
theorem Zin(w:World){t tx ty e:TypeId}{i:TypeInfo}(ht:P.underlying t=some (.slice e))(hi:P.info? e=some i)
 {a:Option Addr} {n cap m:Nat} {x:Value} {news:List Value} (hl:(Builtin.lenOf x).run P w=.ok m w) (hf:(Builtin.firstCells i.size (min m n) x).run P w=.ok news.toArray w) {w':World}
 (jZ:∀b,a=some b->(storeCells b news).run P w=.ok () w') (oW:a=none->w'=w):
 (Builtin.copy_ #[t,tx] ty #[.slice a n cap,x]).run P w=.ok (.int .i64 (min m n:Nat)) w':=by
 cases a with
 |none=>
  have:=oW rfl
  subst this
  simp[Builtin.copy_,run_underlying ht,sizeOf,typeInfo,hi,hl,goInt,hf]
 |some b=>simp[Builtin.copy_,run_underlying ht,sizeOf,typeInfo,hi,hl,goInt,hf,jZ b rfl]
theorem Zbj{es:List (List D)}(h:iK I w es news.toArray 0 sz)(hk:k<=es.length):iK I w (es.take k) (news.take (k*sz)).toArray 0 sz:=by
 rw[wF]at h⊢
 intro i hi
 have iw:i<k:=by simp at hi;omega
 obtain⟨h1,h2⟩:=h i (by omega)
 have he:(es.take k).getD i []=es.getD i []:=by simp[aK,aU,iw]
 rw[he]
 refine⟨h1,?_⟩
 rw[uk]at h2⊢
 intro j hj
 obtain⟨v,hv,hp⟩:=h2 j hj
 refine⟨v,?_,hp⟩
 have bz:i*sz+j<k*sz:=by
  have:=aV sz (show i+1<=k by omega)
  rw[aW]at this
  omega
 simp only[aX,aY]at hv⊢
 rw[aU,if_pos bz]
 exact hv
theorem Z12{es ys:List (List D)}{A B:List Value}(h1:iK I w es A.toArray 0 sz)(hA:A.length=es.length*sz)(h2:iK I w ys B.toArray 0 sz):iK I w (es++ys) (A++B).toArray 0 sz:=by
 rw[wF]at h1 h2⊢
 intro i hi
 by_cases bz:i<es.length
 ·have he:(es++ys).getD i []=es.getD i []:=by simp[aK,aZ bz]
  rw[he]
  obtain⟨g1,g2⟩:=h1 i bz
  refine⟨g1,?_⟩
  rw[uk]at g2⊢
  intro j hj
  obtain⟨v,hv,hp⟩:=g2 j hj
  refine⟨v,?_,hp⟩
  have hl:=(Array.getElem?_eq_some_iff.1 hv).1
  simp only[aY,bA]at hv hl⊢
  rw[aZ hl];exact hv
 ·have iw:i-es.length<ys.length:=by simp at hi;omega
  have he:(es++ys).getD i []=ys.getD (i-es.length) []:=by simp[aK,bB (show es.length<=i by omega)]
  rw[he]
  obtain⟨g1,g2⟩:=h2 _ iw
  refine⟨g1,?_⟩
  rw[uk]at g2⊢
  intro j hj
  obtain⟨v,hv,hp⟩:=g2 j hj
  refine⟨v,?_,hp⟩
  simp only[aY]at hv⊢
  have e:0+i*sz+j=A.length+(0+(i-es.length)*sz+j):=by
   rw[hA,show i*sz=(es.length+(i-es.length))*sz by congr 1;omega,bC];omega
  rw[e,bB (by omega)]
  rw[show A.length+(0+(i-es.length)*sz+j)-A.length=0+(i-es.length)*sz+j by omega]
  exact hv
theorem Zrd{es:List (List D)}{arr:Array Value}(h:iK I w es arr 0 sz):iK I w (es.drop k) (arr.toList.drop (k*sz)).toArray 0 sz:=by
 have:=KS (l:=k) h
 rw[wF]at this⊢
 intro i hi
 obtain⟨h1,h2⟩:=this i hi
 refine⟨h1,?_⟩
 rw[uk]at h2⊢
 intro j hj
 obtain⟨v,hv,hp⟩:=h2 j hj
 refine⟨v,?_,hp⟩
 simp only[aY,List.getElem?_drop]
 rw[<-hv]
 simp[Nat.add_assoc]
theorem xH{c:Ctx}(hm:Mem c w){row ao:Row}(hr:c.R r=some row)(h1:ao.box=row.box)(hb:row.box=false)(h2:ao.ty=row.ty)(h3:ao.sz=row.sz)(h4:ao.es.l=row.es.l):jn c w (c.jF r ao) w/\Mem (c.jF r ao) w:=by
 have hg:jn c w (c.jF r ao) w:=by
  refine⟨rfl,aO _,λb hb=>⟨hb,rfl⟩,λs x hs=>?_⟩
  by_cases e:s=r
  ·subst e
   rw[hr]at hs;cases hs
   exact⟨ao,by simp[Ctx.jF],h1,h2,h3,by rw[h4],rfl,Iff.rfl,λ_ a ha=>⟨a,ha,rfl⟩⟩
  ·exact⟨x,by simp[Ctx.jF,e,hs],rfl,rfl,rfl,rfl,rfl,Iff.rfl,λ_ a ha=>⟨a,ha,rfl⟩⟩
 have jE:∀s x,(c.jF r ao).R s=some x->∃x',c.R s=some x':=λs x hs=>by
  by_cases e:s=r
  ·exact⟨row,by rw[e];exact hr⟩
  ·exact⟨x,by simpa[Ctx.jF,e]using hs⟩
 refine⟨hg,λs x hs=>?_,λs q x y hs hq v1 v2 he=>?_,λb iH=>⟨(hm.fu b iH).1,λs x hs hv=>?_⟩,hm.top,hm.kY⟩
 ·by_cases e:s=r
  ·subst e
   simp only[Ctx.jF,if_true,Option.some.injEq]at hs
   subst hs
   rcases hm.row _ row hr with⟨g0,g1,g2,g3⟩|⟨g0,arr,g1,g2,g3⟩
   ·exact .inl ⟨g0,h1.trans g1,h4.trans g2,by rw[h3];exact g3⟩
   ·refine .inr ⟨g0,arr,by rw[h2];exact g1,by rw[h3];exact g2,?_⟩
    rw[if_neg (by rw[hb];simp)]at g3
    rw[if_neg (by rw[h1,hb];simp),h4,h3]
    exact g3
  ·have jl:c.R s=some x:=by simpa[Ctx.jF,e]using hs
   exact um hg rfl Iff.rfl (λ_=>rfl) (hm.row s x jl)
 ·obtain⟨x',jI⟩:=jE s x hs
  obtain⟨y',AB⟩:=jE q y hq
  exact hm.inj s q x' y' jI AB v1 v2 he
 ·obtain⟨x',jI⟩:=jE s x hs
  exact(hm.fu b iH).2 s x' jI hv
theorem ya(hT:jD P T){t tx ty:TypeId}{x y:D}{K:D->Rows->Prop}(h:uo T t tx x y R K):
 ∃ val R',K val R'/\∀c w vx vy,Mem c w->(∀r,c.R r=R.getD r none)->Rep c w x vx->Rep c w y vy->
  ∃v' w' c',(Builtin.copy_ #[t,tx] ty #[vx,vy]).run P w=.ok v' w'/\lY c w c' w'/\(∀r,c'.R r=R'.getD r none)/\Rep c' w' val v':=by
 unfold uo at h
 split at h
 ·rename_i e iP _ _ _ _ _ ht
  have hk:=nf hT ht
  simp only at hk
  split at h
  ·rename_i ke sz lZ cs z q kx _ _ _ _ _ he htx
   obtain⟨i0,r6,Ff,_,Bz,AD,_⟩:=Ea (hT.get he)
   simp only at Ff
   split at h
   ·rename_i sy ys j8
    simp only[db,aE,aI]at h
    obtain⟨⟨⟨h0,h1⟩,h5⟩,h⟩:=h
    have h0:0<sz:=lE h0
    have h5:sy=sz\/ys.l=[]:=h5.imp bE S3
    have core:∀(r o n k:Nat) (j6:TypeId) (es jh:ak),jh.l=es.l.take o++ys.l.take k++es.l.drop (o+k)->R.getD r none=some ⟨false,j6,sz,es⟩->k=min ys.l.length n->o+n<=es.l.length->∀c w vx vy,Mem c w->(∀r,c.R r=R.getD r none)->
     ((n=0/\∃a,vx=.slice a 0 0)\/(¬c.V r/\∃cap arr,vx=.slice (some ⟨c.ρ r,o*sz,none⟩) n cap/\w.heap[c.ρ r]?=some (.cells arr j6 (0,0))))->Rep c w y vy->
     ∃v' w' c',(Builtin.copy_ #[t,tx] ty #[vx,vy]).run P w=.ok v' w'/\lY c w c' w'/\(∀q,c'.R q=(R.set r (some ⟨false,j6,sz,jh⟩)).getD q none)/\v'=.int .i64 (k:Nat):=by
     intro r o n k j6 es jh IB hr Fb KT c w vx vy hm hR hx hy
     have pn:mV c R:=λr row ao g1 g2=>by rw[hR,g2]at g1;exact(Option.some.inj g1).symm
     obtain⟨news,s1,s2,s3,s4⟩:=zaa (P:=P) h0 j8 h5 hm pn hy
     have cq:c.R r=some ⟨false,j6,sz,es⟩:=by rw[hR];exact hr
     rcases hx with⟨hn0,a,hx⟩|⟨hV,cap,arr,hx,hh⟩
     ·subst hx
      have AD:k=0:=by omega
      have il:=Zin (P:=P) w (ty:=ty) (tx:=tx) (a:=a) (n:=0) (cap:=0) (news:=[]) (w':=w) hk.1 r6 s2 (by rw[Ff];simpa using s3 0 (Nat.zero_le _) w rfl) (λb _=>by simp[storeCells]) (λ_=>rfl)
      have hl:jh.l=es.l:=by rw[IB,AD];simp
      obtain⟨u1,u2⟩:=xH hm cq (ao:=⟨false,j6,sz,jh⟩) rfl rfl rfl rfl hl
      refine⟨_,w,c.jF r ⟨false,j6,sz,jh⟩,il,⟨u2,u1,Fr.refl _ w,λb hb=>.inl hb,λq row hq v=>.inl ⟨?_,v,rfl⟩⟩,λq=>?_,by rw[AD];simp⟩
      ·by_cases e:q=r
       ·exact⟨_,by rw[e];exact cq⟩
       ·exact⟨row,by simpa[Ctx.jF,e]using hq⟩
      ·rw[WS hr]
       simp only[Ctx.jF]
       split
       ·rfl
       ·exact hR q
     ·subst hx
      obtain⟨cur,ha,_,hE⟩:=hm.real cq hV
      simp only at ha
      rw[hh]at ha;cases ha
      simp only[aN,if_false]at hE
      have k9:es.l.length*sz<=arr.size:=by
       by_cases he:es.l.length=0
       ·rw[he];omega
       ·have:=Z4r hE h0 (show es.l.length-1<es.l.length by omega)
        have e1:es.l.length*sz=(es.l.length-1)*sz+sz:=by rw[show es.l.length*sz=(es.l.length-1+1)*sz by congr 1;omega,aW]
        omega
      have WT:k<=ys.l.length/\k<=n:=by omega
      have rB:o*sz+0+(news.take (k*sz)).length<=arr.size:=by
       have h1:(o+k)*sz<=es.l.length*sz:=aV _ (by omega)
       rw[bC]at h1
       rw[bD];omega
      have hlen:(news.take (k*sz)).length=k*sz:=by
       have:=aV sz WT.1
       rw[bD];omega
      have jZ:=run_storeCells_at (P:=P) (c.ρ r) (o*sz) j6 (news.take (k*sz)) 0 arr w hh rB (λu hu=>iK.one s4 s1 u (List.mem_of_mem_take hu))
      have il:=Zin (P:=P) w (ty:=ty) (tx:=tx) (a:=some ⟨c.ρ r,o*sz,none⟩) (n:=n) (cap:=cap) (news:=news.take (k*sz)) (w':=w.setRow (c.ρ r) (arr.toList.take (o*sz+0)++news.take (k*sz)++arr.toList.drop (o*sz+0+(news.take (k*sz)).length)).toArray) hk.1 r6 s2 (by rw[Ff,<-Fb];exact s3 k WT.1 w rfl) (λb hb=>by cases hb;simpa using jZ) (λh=>by cases h)
      have wG:jh.l.length=es.l.length:=by rw[IB];simp only[lA,bD,bF];omega
      have hw:=hm.write (ao:=⟨false,j6,sz,jh⟩) cq hV hh (arr:=(arr.toList.take (o*sz+0)++news.take (k*sz)++arr.toList.drop (o*sz+0+(news.take (k*sz)).length)).toArray)
       (by simp only[bA,lA,bD,bF,Array.length_toList];simp only[bD]at rB;omega) rfl rfl rfl wG
      have gz:=hw.2 ⟨h0,by
       simp only[aN,if_false]
       rw[IB]
       refine ou (λb hb=>⟨hb,(hw.1.I b hb).2⟩) _ _ _ _ ?_
       have p1:=Zbj (k:=o) (I:=c.I) (w:=w) (news:=arr.toList) (es:=es.l) (sz:=sz) (by simpa using hE) (by omega)
       have p2:=Zbj (k:=k) s4 WT.1
       have p3:=Zrd (k:=o+k) hE
       have l1:(arr.toList.take (o*sz)).length=(es.l.take o).length*sz:=by
        have:=aV sz (show o<=es.l.length by omega)
        rw[bD,bD,show min o es.l.length=o by omega,show arr.toList.length=arr.size from rfl];omega
       have q1:=Z12 p1 l1 p2
       have l2:(arr.toList.take (o*sz)++news.take (k*sz)).length=(es.l.take o++ys.l.take k).length*sz:=by
        rw[lA,l1,hlen,lA,bC,bD (l:=ys.l),show min k ys.l.length=k by omega]
       have q2:=Z12 q1 l2 p3
       have e2:o*sz+0+(news.take (k*sz)).length=(o+k)*sz:=by rw[hlen,bC];omega
       rw[e2]
       simpa using q2⟩
      refine⟨_,_,c.jF r ⟨false,j6,sz,jh⟩,il,⟨gz,hw.1,(S4 w _ _).mono λb _ hb=>⟨r,_,cq,hV,hb.symm⟩,λb hb=>.inl hb,λq ao hq v=>.inl ⟨?_,v,rfl⟩⟩,λq=>?_,by rw[Fb]⟩
      ·by_cases e:q=r
       ·exact⟨_,by rw[e];exact cq⟩
       ·exact⟨ao,by simpa[Ctx.jF,e]using hq⟩
      ·rw[WS hr]
       simp only[Ctx.jF]
       split
       ·rfl
       ·exact hR q
    cases x<;>simp only at h
    case all r=>
     split at h
     ·rename_i j6 s es hr
      simp only[db,ny]at h
      have hs:=bE h.1
      subst hs
      refine⟨_,_,h.2,λc w vx vy hm hR hx hy=>?_⟩
      obtain⟨row,q1,q2,hv⟩:=hx
      have cq:row=⟨false,j6,s,es⟩:=by rw[hR,hr]at q1;exact(Option.some.inj q1).symm
      subst cq
      have jI:(es.l.length=0/\∃a,vx=.slice a 0 0)\/(¬c.V r/\∃cap arr,vx=.slice (some ⟨c.ρ r,0*s,none⟩) es.l.length cap/\w.heap[c.ρ r]?=some (.cells arr j6 (0,0))):=by
       rcases hv with⟨hV,a,hv,_⟩|⟨hV,cap,arr,hv,h1,h2,h3,h4⟩
       ·have:=(hm.ov q1 hV).2.1
        simp only at this
        exact .inl ⟨by rw[this];rfl,a,hv⟩
       ·exact .inr ⟨hV,cap,arr,by rw[Nat.zero_mul];exact hv,h3⟩
      obtain⟨v',w',c',p1,p2,p3,p4⟩:=core r 0 es.l.length _ j6 es ((ys.take (min ys.len es.len)).app (es.drop (min ys.len es.len))) (by rw[ak.j9,ak.je,ak.kC,ak.iy,ak.iy];simp) hr rfl (by omega) c w vx vy hm hR jI hy
      exact⟨v',w',c',p1,p2,p3,by rw[p4,ak.iy,ak.iy];rfl⟩
     ·exact h.elim
    case own r o n=>
     split at h
     ·rename_i j6 s es hr
      simp only[db,ny]at h
      have hs:=bE h.1
      subst hs
      refine⟨_,_,h.2,λc w vx vy hm hR hx hy=>?_⟩
      obtain⟨row,q1,q2,ho,hv⟩:=hx
      have cq:row=⟨false,j6,s,es⟩:=by rw[hR,hr]at q1;exact(Option.some.inj q1).symm
      subst cq
      have jI:(n=0/\∃a,vx=.slice a 0 0)\/(¬c.V r/\∃cap arr,vx=.slice (some ⟨c.ρ r,o*s,none⟩) n cap/\w.heap[c.ρ r]?=some (.cells arr j6 (0,0))):=by
       rcases hv with⟨h0,a,hv,_⟩|⟨hV,cap,arr,h1,h2,h3,hv,h4⟩
       ·exact .inl ⟨h0,a,hv⟩
       ·exact .inr ⟨hV,cap,arr,hv,h3⟩
      obtain⟨v',w',c',p1,p2,p3,p4⟩:=core r o n _ j6 es (((es.take o).app (ys.take (min ys.len n))).app (es.drop (o+min ys.len n))) (by rw[ak.j9,ak.j9,ak.je,ak.je,ak.kC,ak.iy]) hr rfl ho c w vx vy hm hR jI hy
      exact⟨v',w',c',p1,p2,p3,by rw[p4,ak.iy];rfl⟩
     ·exact h.elim
   ·exact h.elim
  ·exact h.elim
 ·exact h.elim
theorem Zox{mx:Bool}{x y:D}{K:D->Prop}(h:wH mx x y K):∃val,K val/\∀(P:Program) c w vx vy,Rep c w x vx->Rep c w y vy->∃u,((mx=false->∀dh ty,(Builtin.min_ dh ty #[vx,vy]).run P w=.ok u w)/\(mx=true->∀dh ty,(Builtin.max_ dh ty #[vx,vy]).run P w=.ok u w))/\Rep c w val u:=by
 unfold wH at h
 split at h
 ·rename_i k a k' b
  simp only[db,decide_eq_true_eq]at h
  obtain⟨rfl,h⟩:=h
  refine⟨_,h,λP c w vx vy hx hy=>⟨_,⟨λe dh ty=>?_,λe dh ty=>?_⟩,rfl⟩⟩
  ·subst e
   rw[Rep.int.1 hx,Rep.int.1 hy]
   simp[Builtin.min_,Builtin.min2]
  ·subst e
   rw[Rep.int.1 hx,Rep.int.1 hy]
   simp[Builtin.max_,Builtin.max2]
 ·exact h.elim
theorem zH(hT:jD P T){t:TypeId}{es:ak}{K:D->Prop}(h:Ca T t es K):K (.rz es)/\∀s fr c w vx vy,Rep c w (.sl s es fr) vx->Rep c w .dx vy->∃u,(∀x y,(do eqGuard .eql t x y vx vy;binOp .eql t vx vy).run P w=.ok u w)/\Rep c w (.rz es) u:=by
 unfold Ca at h
 split at h
 ·rename_i e n _ _ _ _ _ ht
  have hk:=nf hT ht
  simp only at hk
  refine⟨h,λs fr c w vx vy hx hy=>?_⟩
  obtain⟨a,cap,hv,hc,iq⟩:=hx
  rw[show vy=_ from hy,hv]
  refine⟨.bool a.isNone,λx y=>?_,a.isNone,rfl,λe'=>?_⟩
  ·have hg:(eqGuard .eql t x y (.slice a es.l.length cap) (.slice none 0 0)).run P w=.ok () w:=rfl
   rw[Sem.run_bind,hg]
   simp only[Result.andThen_ok,binOp]
   simp only[run_equal_slice_nil w t e a es.l.length cap hk.1,Sem.run_bind,Result.andThen_ok,Sem.run_pure]
  ·rcases iq with iq|⟨b,off,arr,ty,fz,ha,_⟩
   ·exact iq
   ·subst ha;cases e'
 ·exact h.elim
theorem Zsj{l:List Int}(h:iK I w (ak.ints .u8 l).l news.toArray 0 1)(hl:news.length=(ak.ints .u8 l).l.length*1):news=l.map (Value.int .u8):=by
 have tM:news.length=l.length:=by simpa[ak.len]using hl
 apply List.ext_getElem?
 intro i
 by_cases hi:i<l.length
 ·obtain⟨h1,h2⟩:=wF.1 h i (by simpa[ak.len]using hi)
  rw[ak.nz _ (show i<(ak.ints .u8 l).len from hi)]at h2
  simp only[ak.get,Cb,AE,sK,r7,Q6,sL,Q4,sM,tN,uq,ur,uv,uw,uy,uz,uA,uB,uD,and_true]at h2
  obtain⟨v,hv,hp⟩:=h2
  simp only[aX,Nat.mul_one,bG,aY]at hv
  rw[hv,hp]
  simp[aK,hi]
 ·rw[aM (by omega),aM (by simp;omega)]
theorem yH(hT:jD P T){s e d:TypeId}{n a1 a2:Nat}{a3:List tO}{a4:Option (List D)}{a5:Bool}(hs:T.get s=some ⟨.slice e n,a1,a2,a3,a4,a5⟩){K:D->Prop}(h:wI T e d x R K):
 ∃val,K val/\∀c w v,Mem c w->mV c R->Rep c w x v->GA P (convert s d v) w c val:=by
 unfold wI at h
 split at h
 ·rename_i he hd
  have om:=nf hT hs
  have rW:=nf hT he
  have KU:=nf hT hd
  simp only at om rW KU
  split at h
  ·rename_i sy es j8
   split at h
   rotate_left
   ·exact h.elim
   rename_i l hto
   have KV:=ak.toI_l hto
   simp only[db,aI]at h
   obtain⟨h5,h⟩:=h
   have h5:sy=1\/es.l=[]:=h5.imp bE S3
   refine⟨_,h,λc w v hm hA hr=>?_⟩
   have hsl:∃a cap,v=.slice a es.l.length cap:=by
    cases x<;>simp only[sN]at j8<;>try(cases j8;done)
    case dx=>cases j8;exact⟨none,0,hr⟩
    case emp=>cases j8;obtain⟨a,hr,_⟩:=hr;exact⟨a,0,hr⟩
    case sl=>cases j8;obtain⟨a,cap,hv,_⟩:=hr;exact⟨a,cap,hv⟩
    case all r=>
     split at j8
     ·rename_i j6 s' jh hR
      cases j8
      obtain⟨row,g1,g2,hv⟩:=hr
      have:=hA r row _ g1 hR
      subst this
      rcases hv with⟨hV,a,hv,_⟩|⟨hV,cap,arr,hv,_⟩
      ·have he:=(hm.ov g1 hV).2.1
       simp only at he
       exact⟨a,0,by rw[he];exact hv⟩
      ·exact⟨_,cap,hv⟩
     ·cases j8
    case own r o m=>
     split at j8
     ·rename_i j6 s' jh hR
      cases j8
      obtain⟨row,g1,g2,g5,hv⟩:=hr
      have:=hA r row _ g1 hR
      subst this
      simp only at g5
      have hlen:((jh.drop o).take m).l.length=m:=by rw[ak.je,ak.kC];simp only[bD,bF];omega
      rw[hlen]
      rcases hv with⟨h0,a,hv,_⟩|⟨hV,cap,arr,_,_,_,hv,_⟩
      ·subst h0;exact⟨a,0,hv⟩
      ·exact⟨_,cap,hv⟩
     ·cases j8
   obtain⟨a,cap,hv⟩:=hsl
   subst hv
   obtain⟨news,s1,s2,s3,s4⟩:=qaa (P:=P) (by omega) j8 h5 hm hA hr
   rw[KV]at s1 s4
   have hn:=Zsj s4 s1
   have hlen:es.l.length=l.length:=by rw[KV];simp[ak.len]
   have hf:=s3 es.l.length (aO _) w rfl
   rw[List.take_of_length_le (by rw[hn,hlen];simp)]at hf
   refine⟨.string ⟨(bytesOf l).toArray⟩,?_,rfl⟩
   rw[run_convert_bytes_string w s d e a es.l.length cap om.1 rW KU]
   cases a with
   |none=>
    simp only[Builtin.firstCells,Sem.run_pure,Result.ok.injEq,and_true]at hf
    have h1:news=[]:=by
     have:=congrArg Array.toList hf
     simpa using this.symm
    have he:l=[]:=by rw[h1]at hn;simpa using hn.symm
    subst he
    simp only[Conv.bytesToString,Sem.run_pure,bytesOf,List.map_nil]
    rfl
   |some a=>
    simp only[Builtin.firstCells,Nat.mul_one]at hf
    rw[hn]at hf
    rw[run_bytesToString w a es.l.length cap _ hf,foldl_push_bytes]
    have he0:ByteArray.empty.data= #[]:=rfl
    rw[he0]
    simp[bytesOf]
  ·exact h.elim
 ·exact h.elim
structure Aw(c0:Ctx)(w0:World)(c:Ctx)(w:World):Prop where
 cg:jn c0 w0 c w
 fr:Fr (λb=>(∃r x,c0.R r=some x/\¬c0.V r/\c0.ρ r=b)\/c0.X b) w0 w
 fu:∀b,c.I b->c0.I b\/c0.X b\/w0.heap.size<=b
 oy:∀r row,c.R r=some row->¬c.V r->((∃x,c0.R r=some x)/\¬c0.V r/\c.ρ r=c0.ρ r)\/c0.X (c.ρ r)\/w0.heap.size<=c.ρ r
 xb:∀b,c0.X b->c0.base<=b
theorem Aw.refl(c:Ctx)(w:World):Aw {c with X:=λ_=>False} w c w:=
 ⟨⟨rfl,aO _,λ_ h=>⟨h,rfl⟩,λ_ row h=>⟨row,h,rfl,rfl,rfl,rfl,rfl,Iff.rfl,λ_ arr h=>⟨arr,h,rfl⟩⟩⟩,Fr.refl _ w,λ_ h=>.inl h,λ_ row h v=>.inl ⟨⟨row,h⟩,v,rfl⟩,λ_ h=>h.elim⟩
theorem Zn9{c0 c:Ctx}(hM:∀k,cf k ks=true->M<=k)(Fg:∀r row,c0.R r=some row->r<M)(h:jn c0 w0 c w):jn c0 w0 (c.kill ks) w:=by
 refine⟨h.base,h.top,h.I,λr row hr=>?_⟩
 obtain⟨ao,g1,g2,g3,g4,g5,g6,gV,g7⟩:=h.R r row hr
 obtain⟨s1,s2,s3,s4⟩:=wJ ks ao
 have bz:=Fg r row hr
 refine⟨ao.kill ks,?_,s1.trans g2,s2.trans g3,s3.trans g4,s4.trans g5,g6,gV,g7⟩
 simp only[Ctx.kill]
 rw[if_neg (λe=>by have:=hM r e;omega),g1];rfl
theorem Aw.step{c0 c c':Ctx}(hM:∀k,cf k ks=true->M<=k)(Fg:∀r row,c0.R r=some row->r<M)(h:Aw c0 w0 c w)(n:jJ ks c w c' w'):Aw c0 w0 c' w':=by
 have Cc:∀s x,cf s ks=true->c.R s=some x->¬c.V s->c0.X (c.ρ s)\/w0.heap.size<=c.ρ s:=λs x hs hx v'=>by
  rcases h.oy s x hx v' with⟨⟨y,hy⟩,_⟩|e'
  ·have:=Fg s y hy;have:=hM s hs;omega
  ·exact e'
 refine⟨(Zn9 hM Fg h.cg).trans n.cg,⟨n.fr.os.trans h.fr.os,n.fr.tape.trans h.fr.tape,n.fr.output.trans h.fr.output,bH h.fr.size n.fr.size,λb hb hx=>?_⟩,λb hb=>?_,λr row hr hv=>?_,h.xb⟩
 ·have bz:b<w.heap.size:=bI hb h.fr.size
  refine(n.fr.heap b bz fun⟨r,x,hr,v,e⟩=>?_).trans (h.fr.heap b hb hx)
  rcases h.oy r x hr v with⟨⟨y,hy⟩,v',e'⟩|e'|e'
  ·exact hx (.inl ⟨r,y,hy,v',by rw[<-e',e]⟩)
  ·exact hx (.inr (by rw[<-e];exact e'))
  ·omega
 ·rcases n.fu b hb with h1|⟨s,x,hs,hx,v',e⟩|h1
  ·exact h.fu b h1
  ·rcases Cc s x hs hx v' with h1|h1
   ·exact .inr (.inl (by rw[<-e];exact h1))
   ·exact .inr (.inr (by omega))
  ·have:=h.fr.size;exact .inr (.inr (by omega))
 ·rcases n.oy r row hr hv with⟨⟨x,hx⟩,v',e⟩|⟨s,x,hs,hx,v',e⟩|e
  ·rcases h.oy r x hx v' with⟨h1,h2,e'⟩|e'|e'
   ·exact .inl ⟨h1,h2,e.trans e'⟩
   ·exact .inr (.inl (by rw[e];exact e'))
   ·exact .inr (.inr (by omega))
  ·rcases Cc s x hs hx v' with h1|h1
   ·exact .inr (.inl (by rw[e];exact h1))
   ·exact .inr (.inr (by omega))
  ·have:=h.fr.size;exact .inr (.inr (by omega))
def mo(n:Nat)(w:World)(ds:List Deferred):Prop:=∃bs:List Nat,bs.Nodup/\ds=bs.map (λb=>({target:=.collected b,args:= #[]}:Deferred))/\∀b∈bs,n<=b/\w.heap[b]?=some (.deferred (some []))
theorem mo.nil:mo n w []:=⟨[],List.nodup_nil,rfl,λb hb=>by simp at hb⟩
theorem mo.to(h:mo n w ds)(hf:∀b:Nat,w.heap[b]?=some (Obj.deferred (some []))->w'.heap[b]?=some (Obj.deferred (some []))):mo n w' ds:=by
 obtain⟨bs,h1,h2,h3⟩:=h
 exact⟨bs,h1,h2,λb hb=>⟨(h3 b hb).1,hf b (h3 b hb).2⟩⟩
theorem mo.step{c:Ctx}(h:mo n w ds)(hm:Mem c w)(hf:Fr (λb=>∃r x,c.R r=some x/\¬c.V r/\c.ρ r=b) w w'):mo n w' ds:=by
 refine h.to λb h2=>(hf.heap b (Array.getElem?_eq_some_iff.1 h2).1 fun⟨r,x,hr,hV,e⟩=>?_).trans h2
 rcases hm.row r x hr with h3|⟨_,arr,h3,_⟩
 ·exact hV h3.1
 ·rw[e,h2]at h3;cases h3
theorem mo.put(h:mo n w a.defers):mo n w (a.put dst v).defers:=by
 cases dst<;>exact h
structure fw(N M:Nat)(c0:Ctx)(w0:World)(c:Ctx)(w:World)(st:St)(a:Act):Prop where
 mem:Mem c w
 rows:∀r,c.R r=st.rows.getD r none
 env:∀t,Rep c w (look st.env t) (a.tmps.getD t undef)
 size:N<=a.tmps.size
 defers:mo w0.heap.size w a.defers
 gh:c0.base<=w0.heap.size
 gy:∀r row,c0.R r=some row->r<M
 reach:Aw c0 w0 c w
theorem fw.base{c0:Ctx}{c:Ctx}(h:fw N M c0 w0 c w st a):c.base<=w.heap.size:=by
 rw[h.reach.cg.base];exact bH h.gh h.reach.fr.size
theorem KP{c:Ctx}{env:List (Nat×D)}(f:Nat):Rep c w (cb env (.func f)) (a.eval (.func f)):=by
 simp only[cb,Act.eval]
 cases h:bJ f YB with
 |false=>trivial
 |true=>exact⟨[],.inl ⟨lE h,rfl⟩,trivial⟩
theorem NH{c:Ctx}{env:List (Nat×D)}(h:∀t,Rep c w (look env t) (a.tmps.getD t undef))(x:Operand):Rep c w (cb env x) (a.eval x):=by
 cases x with
 |tmp t=>exact h t
 |const v=>
  simp only[cb,Act.eval]
  cases hv:Gy v with
  |none=>trivial
  |some d=>exact Nz hv c w
 |global g=>trivial
 |func f=>exact KP f
def sE(env:List (Nat×D))(dst:Option Tmp)(d:D):List (Nat×D):=match dst with|none=>env|some t=>(t,d)::env
theorem Bx(env:List (Nat×D))(t:Nat)(d:D)(s:Nat):look ((t,d)::env) s=if t=s then d else look env s:=by
 simp only[look]
 cases hb:Nat.beq t s with
 |true=>rw[if_pos (bE hb)]
 |false=>rw[if_neg (λe=>by rw[e]at hb;simp at hb)]
theorem Zb1{c:Ctx}{env:List (Nat×D)}(hN:N<=a.tmps.size)(hd:∀t,dst=some t->t<N)(h:∀t,Rep c w (look env t) (a.tmps.getD t undef))(hv:Rep c w d v)(t:Nat):
 Rep c w (look (sE env dst d) t) ((a.put dst v).tmps.getD t undef):=by
 cases dst with
 |none=>exact h t
 |some s=>
  have hs:=hd s rfl
  simp only[sE,Act.put,Bx]
  by_cases e:s=t
  ·subst e
   rw[if_pos rfl]
   have bz:s<a.tmps.size:=bI hs hN
   simpa[aP,bz]using hv
  ·rw[if_neg e]
   have:=h t
   simpa[Array.getElem?_setIfInBounds_ne e]using this
def ju:List Operand->Nat
 |[]=>1
 |.tmp t::l=>t+1+ju l
 |_::l=>ju l
theorem WU:∀{l:List Operand},0<ju l
 |[]=>by simp[ju]
 |x::l=>by cases x<;>simp only[ju]<;>have:=WU (l:=l)<;>omega
theorem S5{t:Nat}:∀{l:List Operand},.tmp t∈l->t<ju l
 |x ::l,h=>by
  rcases List.mem_cons.1 h with e|e
  ·subst e;simp only[ju];omega
  ·have:=S5 e
   cases x<;>simp only[ju]<;>omega
def GB(B:Nat):List iJ->List (Nat×D)
 |[]=>[]
 |x::l=>(B,x.d)::GB (B+1) l
theorem NI{env:List (Nat×D)}:∀{cs:List iJ} {B t:Nat},look (GB B cs++env) t=if h:B<=t/\t-B<cs.length then(cs[t-B]'h.2).d else look env t
 |[],B,t=>by simp[GB]
 |x ::l,B,t=>by
  simp only[GB,List.cons_append,Bx,NI (cs:=l) (B:=B+1)]
  by_cases e:B=t
  ·subst e;simp
  ·rw[if_neg e]
   by_cases h:B+1<=t/\t-(B+1)<l.length
   ·rw[dif_pos h,dif_pos (by simp;omega)]
    have:t-B=(t-(B+1))+1:=by omega
    simp only[this,List.getElem_cons_succ]
   ·rw[dif_neg h,dif_neg (by simp;omega)]
def Fh(args:Array Operand)(n:Nat):Array Operand:=(args.toList++(bK (ju args.toList) n).map Operand.tmp).toArray
def tP(a:Act)(B:Nat)(us:List Value):Act:={tmps:=((List.range B).map (λi=>a.tmps.getD i undef)++us).toArray,defers:=[]}
theorem Zj4{t:Nat}(h:t<B):(tP a B us).tmps.getD t undef=a.tmps.getD t undef:=by
 simp[tP,aP,h,List.getElem_append]
 omega
theorem Zjq:(tP a B us).tmps.getD (B+i) undef=us.getD i undef:=by
 simp only[tP,Array.getD_eq_getD_getElem?,aY]
 rw[bB (by simp)]
 simp[aK]
theorem oX.length{c:Ctx}{w:World}:∀{cs:List iJ} {us:List Value},oX c w cs us->us.length=cs.length
 |[],[],_=>rfl
 |_::_,_::_,h=>by simp[oX.length h.2]
 |[],_::_,h=>h.elim
 |_::_,[],h=>h.elim
theorem oX.get{c:Ctx}{w:World}:∀{cs:List iJ} {us:List Value},oX c w cs us->∀i (h:i<cs.length),S6 c w (cs[i]'h) (us.getD i undef)
 |[],[],_,i,h=>by simp at h
 |_::_,_::_,h,0,_=>by simpa using h.1
 |_::_,_::_,h,i+1,hi=>by simpa using oX.get h.2 i (by simpa using hi)
 |[],_::_,h,_,_=>h.elim
 |_::_,[],h,_,_=>h.elim
theorem Zc2{env:List (Nat×D)}:(Fh args cs.length).toList.map (cb (GB (ju args.toList) cs++env))=args.toList.map (cb env)++cs.map iJ.d:=by
 simp only[Fh,bL]
 congr 1
 ·refine bM λx hx=>?_
  cases x with
  |tmp t=>simp only[cb,NI];rw[dif_neg (by have:=S5 hx;omega)]
  |_=>rfl
 ·refine bN (by simp) λi h1 h2=>?_
  have:i<cs.length:=by simpa using h2
  simp only[bO,bP,cb,NI]
  rw[dif_pos (by omega)]
  congr 1
  simp
theorem Z09:(Fh args us.length).toList.map (tP a (ju args.toList) us).eval=args.toList.map a.eval++us:=by
 simp only[Fh,bL]
 congr 1
 ·refine bM λx hx=>?_
  cases x with
  |tmp t=>exact Zj4 (S5 hx)
  |_=>rfl
 ·refine bN (by simp) λi h1 h2=>?_
  have:i<us.length:=h2
  simp only[bO,bP,Act.eval,Nat.one_mul]
  rw[Zjq]
  simp[aK,this]
theorem Cd{c:Ctx}{env:List (Nat×D)}(hl:∀x∈args.toList,Rep c w (cb env x) (a.eval x))(hc:oX c w cs us):∀x∈(Fh args cs.length).toList,Rep c w (cb (GB (ju args.toList) cs++env) x) ((tP a (ju args.toList) us).eval x):=by
 intro x hx
 simp only[Fh,List.mem_append,List.mem_map]at hx
 rcases hx with hx|⟨t,ht,rfl⟩
 ·have:=hl x hx
  cases x with
  |tmp t=>
   have bz:=S5 hx
   simp only[cb,NI,Act.eval]
   rw[dif_neg (by omega),Zj4 bz]
   exact this
  |_=>exact this
 ·rw[List.mem_range'_1]at ht
  obtain⟨i,hi,rfl⟩:∃i:Nat,i<cs.length/\t=ju args.toList+i:=⟨t-ju args.toList,Nat.sub_lt_left_of_lt_add ht.1 ht.2,(Nat.add_sub_cancel' ht.1).symm⟩
  have h2:=oX.get hc i hi
  have h3:look (GB (ju args.toList) cs++env) (ju args.toList+i)=(cs[i]'hi).d:=by
   rw[NI,dif_pos ⟨by omega,by omega⟩]
   congr 1
   simp
  simp only[cb,Act.eval]
  rw[h3,Zjq]
  exact Rep.KW (VRep.Fi (WV.1 h2))
theorem xaE{f:FuncId}(he:∀args w,(callFunc f args).run P w=.ok (.enter f args) w){t:Tmp}{guard:Option (Nat×Bool)}
 (ht:a.eval (.tmp t)=.func (.func f) #[] us.toArray) {K:Act->World->Prop} {Q:Exit->Act->World->Prop}
 (h:(⟨some 0,.call ⟨.value (.func f),Fh args us.length,dh⟩,type,pos,after,guard⟩:Oper).nw P (tP a (ju args.toList) us) w (λa' w'=>K (a.put dst (a'.tmps.getD 0 undef)) w') (λ_ _ _=>False)):
 (⟨dst,.call ⟨.value (.tmp t),args,dh⟩,type,pos,after,guard⟩:Oper).nw P a w K Q:=by
 have hv:=Z09 (a:=a) (args:=args) (us:=us)
 have r1:(execOp (tP a (ju args.toList) us).eval (⟨some 0,.call ⟨.value (.func f),Fh args us.length,dh⟩,type,pos,after,guard⟩:Oper)).run P w=.ok (.enter f (args.toList.map a.eval++us).toArray) w:=by
  simp only[execOp,resolve,Act.eval,Deferred.ofValue,Sem.run_bind,Sem.run_pure,Result.andThen_ok,invoke,bQ,Array.append_empty]
  rw[he,<-hv,<-bR,bS]
 have r2:(execOp a.eval (⟨dst,.call ⟨.value (.tmp t),args,dh⟩,type,pos,after,guard⟩:Oper)).run P w=.ok (.enter f (args.toList.map a.eval++us).toArray) w:=by
  simp only[execOp,resolve,ht,Deferred.ofValue,Sem.run_bind,Sem.run_pure,Result.andThen_ok,invoke,bQ]
  rw[he]
  congr 2
  rw[<-List.append_toArray,<-bR,bS]
 have bz:0<(tP a (ju args.toList) us).tmps.size:=by have:=WU (l:=args.toList);simp[tP];omega
 unfold Oper.nw at h⊢
 rw[r1]at h
 rw[r2]
 refine Calls.mono h λe w' ⟨v,he,hp⟩=>⟨v,he,?_⟩
 have:((tP a (ju args.toList) us).put (some 0) v).tmps.getD 0 undef=v:=by
  simp only[Act.put]
  simp[aP,bz]
 simp only[this]at hp
 exact hp
theorem vH{t:Tmp}{guard:Option (Nat×Bool)}{l:Nat}{rec:Loop}
 (ht:a.eval (.tmp t)=.func (.yield l) #[] #[]) (hl:w.heap[l]?=some (.loop rec)) {K:Act->World->Prop} {Q:Exit->Act->World->Prop} (hs:(args.toList.map a.eval).length=rec.params.size)
 (h:RoundIn Fence.wide 0 P l rec.fn ((rec.params.zip (args.toList.map a.eval).toArray).foldl (λtmps (t,a)=>tmps.setIfInBounds t a) rec.tmps) rec.assign rec.body w λe w'=>∃v,e=.returned v/\K (a.put dst v) w'):
 (⟨dst,.call ⟨.value (.tmp t),args,dh⟩,type,pos,after,guard⟩:Oper).nw P a w K Q:=by
 have r2:(execOp a.eval (⟨dst,.call ⟨.value (.tmp t),args,dh⟩,type,pos,after,guard⟩:Oper)).run P w=.ok (.round l rec.fn ((rec.params.zip (args.toList.map a.eval).toArray).foldl (λtmps (t,a)=>tmps.setIfInBounds t a) rec.tmps) rec.assign rec.body) w:=by
  simp only[execOp,resolve,ht,Deferred.ofValue,Sem.run_bind,Sem.run_pure,Result.andThen_ok,invoke,bQ]
  have hy:=run_yield (P:=P) (args:=(args.toList.map a.eval).toArray) hl (by simpa using hs)
  rw[<-hy,<-bR,bS]
 unfold Oper.nw
 rw[r2]
 exact h
section
variable {P:Program} {G:List bf} {M:Nat} {dst:Option Tmp} {f:FuncId} {t:Tmp} {args:Array Operand} {dh:Array TypeId} {type:TypeId} {pos':String} {after:Array Edge} {guard:Option (Nat×Bool)} {env:List (Nat×D)} {cs:List iJ} {R:Rows}
theorem NJ{x:bf}(dz:bj P x)(hf:x.f=f)(hy:f<YB)(ht:look env t=.gq f cs)
 (h:Ce P ⟨some 0,.call ⟨.value (.func f),Fh args cs.length,dh⟩,type,pos',after,guard⟩ (cb (GB (ju args.toList) cs++env)) R ks val R'):Ce P ⟨dst,.call ⟨.value (.tmp t),args,dh⟩,type,pos',after,guard⟩ (cb env) R ks val R':=by
 intro c w a hm hb hR fh K Q hK
 have h1:=fh (.tmp t) (by simp[Op.operands,Call.operands])
 simp only[cb,ht]at h1
 obtain⟨us,⟨_,hv⟩|⟨pV,_⟩,hc⟩:=h1
 rotate_left
 ·exact absurd hy (Nat.not_lt.2 pV)
 have hl:us.length=cs.length:=hc.length
 refine xaE (λaz w=>by rw[<-hf];exact dz.enters (by rw[hf];exact hy) az w) hv ?_
 rw[hl]
 refine h c w _ hm hb hR (λy hy=>?_) _ _ λv w' c' hn j7 hr=>?_
 ·have gb:∀x∈args.toList,Rep c w (cb env x) (a.eval x):=λy hy=>fh y (by simp[Op.operands,Call.operands];exact .inr (by simpa using hy))
  simp only[Op.operands,Call.operands]at hy
  rcases Array.mem_append.1 hy with hy|hy
  ·simp at hy;subst hy;exact KP _
  ·exact Cd gb hc y (by simpa using hy)
 ·have bz:0<(tP a (ju args.toList) us).tmps.size:=by have:=WU (l:=args.toList);simp[tP];omega
  have:((tP a (ju args.toList) us).put (some 0) v).tmps.getD 0 undef=v:=by
   simp only[Act.put]
   simp[aP,bz]
  show K (a.put dst (((tP a (ju args.toList) us).put (some 0) v).tmps.getD 0 undef)) w'
  rw[this]
  exact hK v w' c' hn j7 hr
theorem Zs4{K:D->Rows->Prop}(hG:j5 P G)(mb:pq G f=none)(ht:look env t=.gq f cs)(h:KX G f (args.toList.map (cb env)++cs.map iJ.d) R K):∃val R',K val R'/\Ce P ⟨dst,.call ⟨.value (.tmp t),args,dh⟩,type,pos',after,guard⟩ (cb env) R [] val R':=by
 rw[<-Zc2]at h
 obtain⟨val,R',x,h1,h2,h3,_⟩:=WW (dst:=some 0) (dh:=dh) (type:=type) (pos':=pos') (after:=after) (guard:=guard) hG mb h
 obtain⟨dz,hf⟩:=GC hG h2
 have wK:x.gone=none:=by simpa[pq,h2]using mb
 exact⟨val,R',h1,NJ dz hf (by rw[<-hf];exact dz.real wK) ht h3.toK⟩
theorem zb{K:List Nat->D->Rows->Prop}(hG:j5 P G)(ng:(bJ f YB||Nat.beq args.size 1)=true)(mb:pq G f=some k)(ht:look env t=.gq f cs)(h:IC G M f k (args.toList.map (cb env)++cs.map iJ.d) R K):∃ks val R',K ks val R'/\(∀j,cf j ks=true->M<=j)/\Ce P ⟨dst,.call ⟨.value (.tmp t),args,dh⟩,type,pos',after,guard⟩ (cb env) R ks val R':=by
 rw[<-Zc2]at h
 by_cases hy:f<YB
 ·obtain⟨ks,val,R',x,h1,h2,h3,h4,h5⟩:=Zot hG hy (dst:=some 0) (dh:=dh) (type:=type) (pos':=pos') (after:=after) (guard:=guard) mb h
  obtain⟨dz,hf⟩:=GC hG h2
  exact⟨ks,val,R',h1,h4,NJ dz hf hy ht h5⟩
 ·obtain⟨ks,val,R',x,h1,h2,h3,h4,h5⟩:=WX hG mb h
  refine⟨ks,val,R',h1,h4,λc w a hm hb hR fh K' Q rC=>?_⟩
  have h1:=fh (.tmp t) (by simp[Op.operands,Call.operands])
  simp only[cb,ht]at h1
  obtain⟨us,⟨bz,_⟩|⟨pV,l,rec,hv,hI,hl,nh⟩,hc⟩:=h1
  ·exact absurd bz hy
  have gb:∀x∈args.toList,Rep c w (cb env x) (a.eval x):=λy hy=>fh y (by simp[Op.operands,Call.operands];exact .inr (by simpa using hy))
  have hlen:us.length=cs.length:=hc.length
  have jb:(args.toList.map a.eval).length=1:=by
   rcases Bool.or_eq_true_iff.1 ng with e|e
   ·exact absurd (lE e) hy
   ·simpa using bE e
  have fy:(args.toList.map a.eval).length=rec.params.size:=by
   obtain⟨_,_,y,_,hp,_,_,_,h1,_⟩:=nh
   rw[hp,h1];exact jb
  exact vH hv hl fy ((h5 c w (tP a (ju args.toList) us).eval hm hb hR (λy hy=>Cd gb hc y hy) (λv w'=>K' (a.put dst v) w') λv w' c'=>rC v w' c').2 (Nat.le_of_not_lt hy) l rec (args.toList.map a.eval) us (by rw[<-hlen,Z09]) hI hl nh jb)
end
def pT(P:Program)(G:List bf)(M:Nat)(o:Oper)(ev:Operand->D)(R:Rows)(ks:List Nat)(val:D)(R':Rows):Prop:=
 if sF G o.op=true then(∀k,cf k ks=true->M<=k)/\Ce P o ev R ks val R' else ks=[]/\pW P o ev R val R'
theorem pT.toK(h:pT P G M o ev R ks val R'):(∀k,cf k ks=true->M<=k)/\Ce P o ev R ks val R':=by
 unfold pT at h
 split at h
 ·exact h
 ·obtain⟨rfl,h⟩:=h
  exact⟨λk hk=>by simp[cf]at hk,h.toW.toK⟩
theorem Cf(hw:sF G o.op=false)(h:pW P o ev R val R'):pT P G M o ev R [] val R':=by
 unfold pT;rw[hw];exact⟨rfl,h⟩
theorem Cg(hw:sF G o.op=true)(hk:∀k,cf k ks=true->M<=k)(h:Ce P o ev R ks val R'):pT P G M o ev R ks val R':=by
 unfold pT;rw[if_pos hw];exact⟨hk,h⟩
def nE(P:Program)(G:List bf)(M:Nat)(ops:Array Oper)(o:Oper)(env:List (Nat×D))(R:Rows)(ks:List Nat)(val:D)(R':Rows):Prop:=
 match o.guard with
 |none=>pT P G M o (cb env) R ks val R'
 |some (j,want)=>∃g,(ops[j]?).bind (·.dst)=some g/\((∃b,look env g=.bool b/\(if b=want then pT P G M o (cb env) R ks val R' else ks=[]/\val=.dt []/\R'=R))\/(look env g=.dt []/\ks=[]/\val=.dt []/\R'=R))
theorem pr(h:st.put N dst d R K):(∀t,dst=some t->t<N)/\K ⟨sE st.env dst d,R⟩:=by
 cases dst with
 |none=>exact⟨λt h=>(by cases h),h⟩
 |some t=>
  simp only[St.put,db]at h
  refine⟨λs hs=>?_,h.2⟩
  cases hs
  exact lE h.1
theorem yb(d:D):d.kill []=d:=by
 cases d with
 |agg cs=>show D.agg (D.kI [] cs)=_;rw[WY]
 |gq f cs=>exact WZ (.gq f cs)
 |_=>rfl
theorem Zkb:∀{ds:List D},D.pX [] ds=ds
 |[]=>rfl
 |d::l=>by simp[D.pX,yb,Zkb (ds:=l)]
theorem vb(d:D):d.gr []=d:=by
 cases d with
 |dt ds=>show D.dt (D.pX [] ds)=_;rw[Zkb]
 |agg cs=>exact yb (.agg cs)
 |gq f cs=>exact WZ (.gq f cs)
 |_=>rfl
theorem pk{env:List (Nat×D)}{t:Nat}:look (sD [] env) t=look env t:=by rw[Ch,vb]
theorem Zp0(hT:jD P T)(hG:j5 P G)(h:mc T G N M o st K):
 ∃ks val R' iN,(∀t,look iN t=look (sD ks st.env) t)/\(∀t,o.dst=some t->t<N)/\K ⟨sE iN o.dst val,R'⟩/\pT P G M o (cb st.env) st.rows ks val R':=by
 have plain:(sF G o.op=GF o.op)->(ig T o.op (cb st.env) st.rows λd R=>st.put N o.dst d R K)->∃ks val R' iN,(∀t,look iN t=look (sD ks st.env) t)/\(∀t,o.dst=some t->t<N)/\K ⟨sE iN o.dst val,R'⟩/\pT P G M o (cb st.env) st.rows ks val R':=by
  intro hw h
  obtain⟨val,R',hK,hO⟩:=NK hT o _ _ _ h
  obtain⟨h1,h2⟩:=pr hK
  refine⟨[],_,_,st.env,λt=>pk.symm,h1,h2,?_⟩
  split at hO
  ·rename_i hs
   exact Cg (hw.trans hs) (λk hk=>by simp[cf]at hk) hO.toK
  ·rename_i hs
   exact Cf (by rw[hw];simpa using hs) hO
 unfold mc at h
 split at h
 ·rename_i cc x y ho
  split at h
  ·rename_i b hb
   have hw:sF G o.op=false:=by rw[ho];rfl
   have go:∀z,z∈o.op.operands->(∀c w (a:Act),Rep c w (cb st.env cc) (a.eval cc)->(execOp a.eval o).run P w=.ok (.value (a.eval z)) w)->(cb st.env z).force (λd=>st.put N o.dst d st.rows K)->
    ∃ks val R' iN,(∀t,look iN t=look (sD ks st.env) t)/\(∀t,o.dst=some t->t<N)/\K ⟨sE iN o.dst val,R'⟩/\pT P G M o (cb st.env) st.rows ks val R':=by
    intro z hz il h
    rw[D.cu]at h
    obtain⟨h1,h2⟩:=pr h
    exact⟨[],_,_,st.env,λt=>pk.symm,h1,h2,Cf hw (nj λc w a hm hA fh=>⟨_,il c w a (fh cc (by rw[ho];simp[Op.operands])),fh z hz⟩)⟩
   cases b with
   |true=>
    refine go x (by rw[ho];simp[Op.operands]) (λc w a hc=>?_) h
    rw[hb]at hc
    simp only[execOp,ho,Rep.bool.1 hc,asBool,Sem.run_bind,Sem.run_pure,Result.andThen_ok,if_true]
   |false=>
    refine go y (by rw[ho];simp[Op.operands]) (λc w a hc=>?_) h
    rw[hb]at hc
    simp only[execOp,ho,Rep.bool.1 hc,asBool,Sem.run_bind,Sem.run_pure,Result.andThen_ok,aN,if_false]
  ·exact h.elim
 ·rename_i f args dh ho
  obtain⟨dst,op,type,pos,after,guard⟩:=o
  simp only at ho
  subst ho
  split at h
  ·rename_i mb
   split at h
   rotate_left
   ·rename_i Eb
    obtain⟨ks,val,R',x,hK,hx,hM,hO⟩:=vR (dst:=dst) (type:=type) (pos':=pos) (after:=after) (guard:=guard) (dh:=dh) hG mb h
    rw[ID]at hK
    obtain⟨h1,h2⟩:=pr hK
    refine⟨ks,_,_,_,λt=>rfl,h1,h2,Cg ?_ hM hO⟩
    have Eb:x.pw=true:=by simpa[Ci,hx]using Eb
    cases nF:x.refs with
    |nil=>simp only[sF,hx,nF,Eb]
    |cons b bs=>simp only[sF,hx,nF]
   rename_i Eb
   have IE:∀x,oZ G f=some x->x.pw=false:=λx hx=>by simpa[Ci,hx]using Eb
   obtain⟨val,R',x,hK,hx,hO,hN⟩:=WW (dst:=dst) (type:=type) (pos':=pos) (after:=after) (guard:=guard) (dh:=dh) hG mb h
   obtain⟨h1,h2⟩:=pr hK
   refine⟨[],_,_,st.env,λt=>pk.symm,h1,h2,?_⟩
   cases hr:x.refs with
   |nil=>exact Cf (by simp only[sF,hx,hr,IE x hx]) (hN hr)
   |cons b bs=>exact Cg (by simp only[sF,hx,hr]) (λk hk=>by simp[cf]at hk) hO.toK
  ·rename_i k mb
   obtain⟨hy,h⟩:=db.1 h
   obtain⟨ks,val,R',x,hK,hx,hr,hM,hO⟩:=Zot hG (lE hy) (dst:=dst) (type:=type) (pos':=pos) (after:=after) (guard:=guard) (dh:=dh) mb h
   rw[ID]at hK
   obtain⟨h1,h2⟩:=pr hK
   refine⟨ks,_,_,_,λt=>rfl,h1,h2,Cg ?_ hM hO⟩
   cases nF:x.refs with
   |nil=>exact(hr nF).elim
   |cons b bs=>simp only[sF,hx,nF]
 ·rename_i t args dh ho
  obtain⟨dst,op,type,pos,after,guard⟩:=o
  simp only at ho
  subst ho
  split at h
  ·rename_i f cs ht
   split at h
   ·rename_i mb
    split at h
    ·obtain⟨val,R',hK,hO⟩:=Zs4 (dst:=dst) (type:=type) (pos':=pos) (after:=after) (guard:=guard) (dh:=dh) hG mb ht h
     obtain⟨h1,h2⟩:=pr hK
     exact⟨[],_,_,st.env,λt=>pk.symm,h1,h2,Cg rfl (λk hk=>by simp[cf]at hk) hO⟩
    ·exact h.elim
   ·rename_i k mb
    obtain⟨ng,h⟩:=db.1 h
    obtain⟨ks,val,R',hK,hM,hO⟩:=zb (dst:=dst) (type:=type) (pos':=pos) (after:=after) (guard:=guard) (dh:=dh) hG ng mb ht h
    rw[ID]at hK
    obtain⟨h1,h2⟩:=pr hK
    exact⟨ks,_,_,_,λt=>rfl,h1,h2,Cg rfl hM hO⟩
  ·exact h.elim
 ·rename_i args dh ho
  obtain⟨dst,op,type,pos,after,guard⟩:=o
  simp only at ho
  subst ho
  split at h
  ·rename_i x y t tx hx ht
   have gb:args= #[x,y]:=by rw[<-bS (xs:=args),hx]
   have uE:dh= #[t,tx]:=by rw[<-bS (xs:=dh),ht]
   subst gb;subst uE
   obtain⟨ks,R',hK,hM,hr⟩:=Zpx (ty:=type) hT h
   rw[ID]at hK
   obtain⟨h1,h2⟩:=pr hK
   refine⟨ks,_,_,_,λt=>rfl,h1,h2,Cg rfl hM λc w a hm hb hR fh K' Q rC=>?_⟩
   obtain⟨v',w',c',il,hn,j7,hv⟩:=hr c w _ _ hm hb hR (fh x (by simp[Op.operands,Call.operands])) (fh y (by simp[Op.operands,Call.operands]))
   refine Qk ?_ (rC v' w' c' hn j7 hv)
   simp only[execOp,resolve,Sem.run_bind,Sem.run_pure,Result.andThen_ok,invoke,builtin]
   have:(#[x,y]:Array Operand).map a.eval= #[a.eval x,a.eval y]:=by simp
   rw[this,il];rfl
  ·exact h.elim
 ·rename_i args dh ho
  obtain⟨dst,op,type,pos,after,guard⟩:=o
  simp only at ho
  subst ho
  split at h
  ·rename_i x y t tx hx ht
   have gb:args= #[x,y]:=by rw[<-bS (xs:=args),hx]
   have uE:dh= #[t,tx]:=by rw[<-bS (xs:=dh),ht]
   subst gb;subst uE
   obtain⟨val,R',hK,hr⟩:=ya (ty:=type) hT h
   obtain⟨h1,h2⟩:=pr hK
   refine⟨[],_,_,st.env,λt=>pk.symm,h1,h2,Cg rfl (λk hk=>by simp[cf]at hk) (Fj.toK λc w a hm hb hR fh K' Q rC=>?_)⟩
   obtain⟨v',w',c',il,hn,j7,hv⟩:=hr c w _ _ hm hR (fh x (by simp[Op.operands,Call.operands])) (fh y (by simp[Op.operands,Call.operands]))
   refine Qk ?_ (rC v' w' c' hn j7 hv)
   simp only[execOp,resolve,Sem.run_bind,Sem.run_pure,Result.andThen_ok,invoke,builtin]
   have:(#[x,y]:Array Operand).map a.eval= #[a.eval x,a.eval y]:=by simp
   rw[this,il];rfl
  ·exact h.elim
 ·rename_i args dh ho
  split at h
  ·rename_i x y hx
   obtain⟨val,hK,hr⟩:=Zox h
   obtain⟨h1,h2⟩:=pr hK
   refine⟨[],_,_,st.env,λt=>pk.symm,h1,h2,Cf (by rw[ho];rfl) (nj λc w a hm hA fh=>?_)⟩
   have gb:args= #[x,y]:=by rw[<-bS (xs:=args),hx]
   subst gb
   obtain⟨u,hu,hv⟩:=hr P c w _ _ (fh x (by rw[ho];simp[Op.operands,Call.operands])) (fh y (by rw[ho];simp[Op.operands,Call.operands]))
   refine⟨u,?_,hv⟩
   simp only[execOp,ho,resolve,Sem.run_bind,Sem.run_pure,Result.andThen_ok,invoke,builtin]
   have:(#[x,y]:Array Operand).map a.eval= #[a.eval x,a.eval y]:=by simp
   rw[this]
   have hu:=hu.1 rfl dh o.type
   rw[hu];rfl
  ·exact h.elim
 ·rename_i args dh ho
  split at h
  ·rename_i x y hx
   obtain⟨val,hK,hr⟩:=Zox h
   obtain⟨h1,h2⟩:=pr hK
   refine⟨[],_,_,st.env,λt=>pk.symm,h1,h2,Cf (by rw[ho];rfl) (nj λc w a hm hA fh=>?_)⟩
   have gb:args= #[x,y]:=by rw[<-bS (xs:=args),hx]
   subst gb
   obtain⟨u,hu,hv⟩:=hr P c w _ _ (fh x (by rw[ho];simp[Op.operands,Call.operands])) (fh y (by rw[ho];simp[Op.operands,Call.operands]))
   refine⟨u,?_,hv⟩
   simp only[execOp,ho,resolve,Sem.run_bind,Sem.run_pure,Result.andThen_ok,invoke,builtin]
   have:(#[x,y]:Array Operand).map a.eval= #[a.eval x,a.eval y]:=by simp
   rw[this]
   have hu:=hu.2 rfl dh o.type
   rw[hu];rfl
  ·exact h.elim
 ·rename_i s d x ho
  split at h
  ·rename_i e _ _ _ _ _ _ hs
   obtain⟨val,hK,hr⟩:=yH hT hs h
   obtain⟨h1,h2⟩:=pr hK
   refine⟨[],_,_,st.env,λt=>pk.symm,h1,h2,Cf (by rw[ho];rfl) (nj λc w a hm hA fh=>?_)⟩
   obtain⟨u,hu,hv⟩:=hr c w _ hm hA (fh x (by rw[ho];simp[Op.operands]))
   refine⟨u,?_,hv⟩
   simp only[execOp,ho]
   rw[Sem.run_bind,hu];rfl
  ·rw[<-ho]at h
   exact plain (by rw[ho];rfl) h
 ·rename_i op t x y ty ho
  split at h
  ·rename_i s es fr hx hy
   obtain⟨hK,hr⟩:=zH hT h
   obtain⟨h1,h2⟩:=pr hK
   refine⟨[],_,_,st.env,λt=>pk.symm,h1,h2,Cf (by rw[ho];rfl) (nj λc w a hm hA fh=>?_)⟩
   have q1:=fh x (by rw[ho];simp[Op.operands])
   have q2:=fh y (by rw[ho];simp[Op.operands])
   rw[hx]at q1;rw[hy]at q2
   obtain⟨u,hu,hv⟩:=hr s fr c w _ _ q1 q2
   refine⟨u,?_,hv⟩
   simp only[execOp,ho]
   rw[Sem.run_bind,hu x y];rfl
  ·rw[<-ho]at h
   exact plain (by rw[ho];rfl) h
 ·rename_i op n1 n2 n9 n3 n4 n5 n6 n7 n8
  refine plain ?_ h
  unfold sF
  split
  ·rename_i r8;rw[r8];rfl
  ·rename_i r8;exact(n2 _ _ _ r8).elim
  ·rename_i r8;exact(n9 _ _ _ r8).elim
  ·rename_i r8;exact(n3 _ _ r8).elim
  ·rename_i r8;exact(n4 _ _ r8).elim
  ·rename_i m1 m2 m5 m3 m4
   cases r8:o.op<;>first|rfl|exact(m1 _ _ _ r8).elim
theorem S7(h:look st.env g=.bool b)(t:Nat):look (st.kN (.tmp g) b).env t=look st.env t:=by
 simp only[St.kN,Bx]
 split
 ·rename_i e;subst e;exact h.symm
 ·rfl
theorem Zr{env mz:List (Nat×D)}(h:∀t,look mz t=look env t):cb mz=cb env:=by
 funext x;cases x<;>first|exact h _|rfl
theorem Wx(hT:jD P T)(hG:j5 P G){l:List Oper}(h:mn T G N M ops (o::l) st K):
 ∃ks val R' iN,(∀t,look iN t=look (sD ks st.env) t)/\(∀t,o.dst=some t->t<N)/\nE P G M ops o st.env st.rows ks val R'/\mn T G N M ops l ⟨sE iN o.dst val,R'⟩ K:=by
 simp only[mn]at h
 split at h
 ·rename_i hg
  obtain⟨ks,val,R',iN,h0,h1,h2,h3⟩:=Zp0 hT hG h
  exact⟨ks,val,R',iN,h0,h1,by unfold nE;rw[hg];exact h3,h2⟩
 ·rename_i j want hg
  split at h
  ·rename_i g hd
   split at h
   ·rename_i b hb
    have yes:∀b',b'=b->mc T G N M o (st.kN (.tmp g) b') (λst=>mn T G N M ops l st K)->b=want->∃ks val R' iN,(∀t,look iN t=look (sD ks st.env) t)/\(∀t,o.dst=some t->t<N)/\nE P G M ops o st.env st.rows ks val R'/\mn T G N M ops l ⟨sE iN o.dst val,R'⟩ K:=by
     intro b' e hh hw
     subst e
     obtain⟨ks,val,R',iN,h0,h1,h2,h3⟩:=Zp0 hT hG hh
     rw[Zr (S7 hb)]at h3
     refine⟨ks,val,R',iN,λt=>by rw[h0,Ch,Ch,S7 hb],h1,?_,h2⟩
     unfold nE;rw[hg]
     exact⟨g,hd,.inl ⟨_,hb,by rw[if_pos hw];exact h3⟩⟩
    have no:∀b',b'=b->(st.kN (.tmp g) b').put N o.dst (.dt []) st.rows (λst=>mn T G N M ops l st K)->b≠want->∃ks val R' iN,(∀t,look iN t=look (sD ks st.env) t)/\(∀t,o.dst=some t->t<N)/\nE P G M ops o st.env st.rows ks val R'/\mn T G N M ops l ⟨sE iN o.dst val,R'⟩ K:=by
     intro b' e hh hw
     subst e
     obtain⟨h1,h2⟩:=pr hh
     refine⟨[],_,_,_,λt=>by rw[pk,S7 hb],h1,?_,h2⟩
     unfold nE;rw[hg]
     exact⟨g,hd,.inl ⟨_,hb,by rw[if_neg hw];exact⟨rfl,rfl,rfl⟩⟩⟩
    cases b<;>cases want<;>simp only[Ec]at h
    ·exact yes _ rfl h rfl
    ·exact no _ rfl h (by simp)
    ·exact no _ rfl h (by simp)
    ·exact yes _ rfl h rfl
   ·rename_i hb
    obtain⟨h1,h2⟩:=pr h
    refine⟨[],_,_,st.env,λt=>pk.symm,h1,?_,h2⟩
    unfold nE;rw[hg]
    exact⟨g,hd,.inr ⟨hb,rfl,rfl,rfl⟩⟩
   ·exact h.elim
  ·exact h.elim
theorem SW{c:Ctx}(hg:o.guard=some (j,want))(hd:(ops[j]?).bind (·.dst)=some g)(h:Rep c w (.dt []) (a.tmps.getD g undef)):
 Region.wanted o (yielded ops a.tmps)=false:=by
 obtain⟨vs,hv,Cj⟩:=h
 have hy:yielded ops a.tmps j=none:=by
  simp only[yielded,hd,aL]
  cases hx:a.tmps[g]? with
  |none=>rfl
  |some v=>
   have:a.tmps.getD g undef=v:=by simp[hx]
   rw[this]at hv
   rw[hv]
 unfold Region.wanted
 rw[hg]
 simp only[hy]
 rfl
theorem SV(c:Ctx)(w:World):Rep c w (.dt []) undef:=⟨[],rfl,trivial⟩
theorem SX{c:Ctx}(hg:o.guard=some (j,want))(hd:(ops[j]?).bind (·.dst)=some g)(h:Rep c w (.bool b) (a.tmps.getD g undef)):
 Region.wanted o (yielded ops a.tmps)=decide (b=want):=by
 have hv:=Rep.bool.1 h
 have ht:a.tmps[g]?=some (.bool b):=by
  cases hx:a.tmps[g]? with
  |none=>simp[hx,undef]at hv
  |some v=>simp[hx]at hv;rw[hv]
 unfold Region.wanted
 simp only[hg,yielded,hd,aL,ht]
 cases b<;>cases want<;>rfl
def wpOp(P:Program)(ops:Array Oper)(Q:Exit->Act->World->Prop)(i:Nat)(K:Act->World->Prop)(a:Act)(w:World):Prop:=
 match ops[i]? with
 |none=>K a w
 |some o=>if Region.wanted o (yielded ops a.tmps)then o.nw P a w K Q else K (a.put o.dst undef) w
def KY(P:Program)(ops:Array Oper)(Q:Exit->Act->World->Prop):List Nat->Act->World->Prop
 |[],a,w=>Q .normal a w
 |i::rest,a,w=>wpOp P ops Q i (KY P ops Q rest) a w
theorem Zai(i:Nat)(rest:List Nat)(a:Act)(w:World):KY P ops Q (i::rest) a w=wpOp P ops Q i (KY P ops Q rest) a w:=rfl
def Ix(P:Program)(md:Region.Mode)(ops:Array Oper)(Q:Exit->Act->World->Prop):Nat->Array Bool->Act->World->Prop
 |0,listed,a,w=>Region.ready md ops listed=[]/\Q .normal a w
 |fuel+1,listed,a,w=>
  (Region.ready md ops listed=[]->Q .normal a w)/\
  ∀i∈Region.ready md ops listed,wpOp P ops Q i (Ix P md ops Q fuel (listed.setIfInBounds i true)) a w
abbrev BA(ro:Option Nat):Fence:={Fence.wide with round:=ro}
theorem qX{P:Program}{ro:Option Nat}{o:Oper}{a:Act}{w:World}{K:Act->World->Prop}{Q Q':Exit->Act->World->Prop}(h:o.nw P a w K Q):o.wpIn (BA ro) 0 P a w K Q':=by
 refine⟨λ_ _=>trivial,?_⟩
 have hd:∀c,o.op≠.defer c:=by
  intro c hc
  unfold Oper.nw at h
  simp only[execOp,hc,Sem.run_bind]at h
  revert h
  cases(resolve a.eval c o.type).run P w with
  |halt _ _=>exactλh=>h
  |ok d w'=>exactλh=>h
 rw[Oper.semAt_eq _ _ _ hd]
 unfold Oper.nw at h
 revert h
 generalize(execOp a.eval o).run P w=r
 intro h
 cases r with
 |halt _ _=>exact h.elim
 |ok n w'=>
  cases n with
  |value v=>exact h
  |skip=>exact h
  |enter f args=>
   refine⟨λe=>(by cases e),?_⟩
   refine CallsIn.mono (F:=Fence.wide) (callsIn_wide.2 h) λe w' ⟨v,he,hk⟩=>?_
   subst he;exact hk
  |round l f tmps assign body=>
   refine⟨λe=>(by cases e),?_⟩
   refine RoundIn.mono (F:=Fence.wide) h λe w' ⟨v,he,hk⟩=>?_
   subst he;exact hk
  |_=>exact h.elim
theorem S8{P:Program}{ro:Option Nat}{ops:Array Oper}{Q:Exit->Act->World->Prop}:∀{l:List Nat} {a:Act} {w:World},KY P ops Q l a w->wpOpsIn (BA ro) 0 P ops Q l a w
 |[],_,_,h=>h
 |i ::l,a,w,h=>by
  rw[Zai]at h
  unfold wpOp at h
  unfold wpOpsIn
  split
  ·rename_i ho;simp only[ho]at h;exact S8 h
  ·rename_i o ho
   simp only[ho]at h
   split
   ·rename_i hw;rw[if_pos hw]at h;exact qX (Q:=Q) (W0 (Q':=Q) (λa w h=>S8 h) h)
   ·rename_i hw;rw[if_neg hw]at h;exact⟨λ_ _=>trivial,S8 h⟩
theorem S9{P:Program}{ro:Option Nat}{md:Region.Mode}{ops:Array Oper}{Q:Exit->Act->World->Prop}:∀{n:Nat} {listed:Array Bool} {a:Act} {w:World},Ix P md ops Q n listed a w->wpAnyIn (BA ro) 0 P md ops Q n listed a w
 |0,_,_,_,h=>h
 |n +1,listed,a,w,h=>by
  refine⟨h.1,λi hi=>?_⟩
  have h:=h.2 i hi
  unfold wpOp at h
  unfold wpOpIn
  split
  ·rename_i ho;simp only[ho]at h;exact S9 h
  ·rename_i o ho
   simp only[ho]at h
   split
   ·rename_i hw;rw[if_pos hw]at h;exact qX (Q:=Q) (W0 (Q':=Q) (λa w h=>S9 h) h)
   ·rename_i hw;rw[if_neg hw]at h;exact⟨λ_ _=>trivial,S9 h⟩
theorem Zjv(h:KY P ops Q (List.range ops.size) a w):(Code.region id ops false).wpIn (BA ro) 0 P Q a w:=wpIn_region (S8 h)
theorem Qut(hm:P.follows .mixedOrders=true)
 (h:Ix P .any ops Q ops.size (Array.replicate ops.size false) a {w with drawn:=w.drawn+1}):(Code.region id ops true).wpIn (BA ro) 0 P Q a w:=wpIn_region_any hm (S9 h)
theorem xX{c0:Ctx}{c:Ctx}{iN:List (Nat×D)}(hi:ops[i]?=some o)
 (hs:fw N M c0 w0 c w st a) (h1:∀t,look iN t=look (sD ks st.env) t) (hd:∀t,o.dst=some t->t<N) (hG:nE P G M ops o st.env st.rows ks val R') {K:Act->World->Prop} {Q:Exit->Act->World->Prop}
 (hK:∀a' w' c',fw N M c0 w0 c' w' ⟨sE iN o.dst val,R'⟩ a'->K a' w'):wpOp P ops Q i K a w:=by
 have fin:(∀k,cf k ks=true->M<=k)->∀(v:Value) (w':World) (c':Ctx),jJ ks c w c' w'->(∀r,c'.R r=R'.getD r none)->Rep c' w' val v->K (a.put o.dst v) w':=λhM v w' c' hn hR hv=>by
  refine hK _ _ c' ⟨hn.mem,hR,?_,?_,?_,hs.gh,hs.gy,hs.reach.step hM hs.gy hn⟩
  ·exact Zb1 hs.size hd (λt=>by rw[h1,Ch];exact Ax hn.cg (W3 (hs.env t))) hv
  ·cases ho:o.dst<;>simp[Act.put]<;>exact hs.size
  ·exact mo.put (hs.defers.step hs.mem hn.fr)
 have run:pT P G M o (cb st.env) st.rows ks val R'->o.nw P a w K Q:=λhX=>hX.toK.2 c w a hs.mem hs.base hs.rows (λx _=>NH hs.env x) K Q (fin hX.toK.1)
 have skip:ks=[]->val=.dt []->R'=st.rows->K (a.put o.dst undef) w:=λe0 e1 e2=>by
  refine hK _ _ c ⟨hs.mem,by rw[e2];exact hs.rows,?_,?_,?_,hs.gh,hs.gy,hs.reach⟩
  ·exact Zb1 hs.size hd (λt=>by rw[h1,e0,pk];exact hs.env t) (by rw[e1];exact SV _ _)
  ·cases ho:o.dst<;>simp[Act.put]<;>exact hs.size
  ·exact mo.put hs.defers
 unfold wpOp
 simp only[hi]
 unfold nE at hG
 cases hg:o.guard with
 |none=>
  simp only[hg]at hG
  have hw:Region.wanted o (yielded ops a.tmps)=true:=by simp[Region.wanted,hg]
  rw[if_pos hw]
  exact run hG
 |some jw=>
  obtain⟨j,want⟩:=jw
  simp only[hg]at hG
  obtain⟨g,h2,⟨b,h3,h4⟩|⟨h3,e0,e1,e2⟩⟩:=hG
  rotate_left
  ·have hr:=hs.env g
   rw[h3]at hr
   rw[if_neg (by rw[SW (o:=o) hg h2 hr];simp)]
   exact skip e0 e1 e2
  have hr:=hs.env g
  rw[h3]at hr
  have hw:=SX (o:=o) hg h2 hr
  by_cases e:b=want
  ·rw[if_pos e]at h4
   rw[if_pos (by rw[hw];simpa using e)]
   exact run h4
  ·rw[if_neg e]at h4
   rw[if_neg (by rw[hw];simpa using e)]
   exact skip h4.1 h4.2.1 h4.2.2
theorem yX{P:Program}{T:iM}(hT:jD P T){G:List bf}(hG:j5 P G){N M:Nat}{ops:Array Oper}{c0:Ctx}{w0:World}{K:St->Prop}{Q:Exit->Act->World->Prop}(hQ:∀st c w a,K st->fw N M c0 w0 c w st a->Q .normal a w):
 ∀(l:List Oper) (k:Nat) (st:St) (c:Ctx) (w:World) (a:Act),ops.toList.drop k=l->mn T G N M ops l st K->fw N M c0 w0 c w st a->KY P ops Q (bK k l.length) a w
 |[],k,st,c,w,a,_,h,hs=>hQ st c w a h hs
 |o ::l,k,st,c,w,a,hk,h,hs=>by
  have bz:k<ops.toList.length:=by
   by_cases bz:k<ops.toList.length
   ·exact bz
   ·rw[List.drop_eq_nil_of_le (by omega)]at hk;cases hk
  rw[List.drop_eq_getElem_cons bz]at hk
  have ho:ops[k]?=some o:=by
   have:=(List.cons.inj hk).1
   rw[<-this]
   simp at bz
   simp[bz]
  obtain⟨ks,val,R',iN,h1,h2,h3,h4⟩:=Wx hT hG h
  simp only[List.length_cons,List.range'_succ]
  rw[Zai]
  exact xX ho hs h1 h2 h3 λa' w' c' jl=>yX hT hG hQ l (k+1) _ c' w' a' (List.cons.inj hk).2 h4 jl
def nd:Exit->Option Ex
 |.normal=>some .normal
 |.exit i=>some (.exit i)
 |.ret=>some .ret
 |_=>none
def ui(ro:Option Nat)(P:Program)(N M:Nat)(code:Code)(st:St)(Q:Ex->St->Prop):Prop:=
 ∀ (c0:Ctx) (w0:World) (c:Ctx) (w:World) (a:Act),fw N M c0 w0 c w st a->
  code.wpIn (BA ro) 0 P (λe a' w'=>∃ex jx c',nd e=some ex/\Q ex jx/\fw N M c0 w0 c' w' jx a') a w
abbrev Tr:=ui none
def Ctx.pw(c:Ctx)(R:Rows)(ks:List Nat):Ctx:=
 {c with R:=λr=>if cf r ks=true then none else(c.R r).map (Row.mC R ks),I:=λb=>c.I b\/∃r row,cf r ks=true/\c.R r=some row/\¬c.V r/\c.ρ r=b}
section
variable {c:Ctx} {w:World} {R:Rows} {ks:List Nat}
theorem Zij(R:Rows)(ks:List Nat)(row:Row):(row.mC R ks).box=row.box/\(row.mC R ks).ty=row.ty/\(row.mC R ks).sz=row.sz/\(row.mC R ks).es.l.length=row.es.l.length:=by
 unfold Row.mC;split<;>exact⟨rfl,rfl,rfl,rfl⟩
theorem Z6x:∀{e:List D},(D.sO R ks e).length=e.length
 |[]=>rfl
 |d::l=>by simp[D.sO,Z6x (e:=l)]
theorem Zh9:jn (c.kill ks) w (c.pw R ks) w:=by
 refine⟨rfl,aO _,λb h=>⟨.inl h,rfl⟩,λr x hx=>?_⟩
 obtain⟨h1,row,h2,rfl⟩:=Q3 hx
 obtain⟨s1,s2,s3,s4⟩:=Zij R ks row
 obtain⟨k1,k2,k3,k4⟩:=wJ ks row
 refine⟨row.mC R ks,?_,s1.trans k1.symm,s2.trans k2.symm,s3.trans k3.symm,s4.trans k4.symm,rfl,Iff.rfl,λ_ arr h=>⟨arr,h,rfl⟩⟩
 show(if cf r ks=true then none else(c.R r).map (Row.mC R ks))=_
 rw[h1,h2];rfl
theorem Z0b:∀{ds:List D} {arr:Array Value} {off:Nat},ds.all D.plain=true->kU c w ds arr off->nZ c.I w ds arr off
 |[],_,_,_,_=>Cb.2 trivial
 |d::ds,arr,off,hp,⟨⟨v,hv,h1⟩,h2⟩=>by
  rw[List.all_cons,aE]at hp
  exact AE.2 ⟨⟨v,hv,cz.plain hp.1 h1⟩,Z0b hp.2 h2⟩
variable (hm:Mem c w) (hA:∀r,c.R r=R.getD r none)
include hm hA
theorem W4(h:cz c w d v):cz (c.pw R ks) w (d.Cl R ks) v:=by
 have IF:∀{d:D},cz c w d v->cz (c.pw R ks) w (d.ez ks) v:=λh=>NL Zh9 (Ta h)
 cases d with
 |all r=>
  simp only[D.Cl]
  cases hb:cf r ks with
  |false=>
   have:=IF h
   simpa only[D.ez,hb]using this
  |true=>
   obtain⟨row,g1,g2,hv⟩:=h
   have hr:R.getD r none=some row:=by rw[<-hA r];exact g1
   obtain⟨box,ty,sz,es⟩:=row
   simp only at g2
   subst g2
   simp only[hr]
   rcases hv with⟨hV,a,hv,_⟩|⟨hV,cap,arr,hv,g3,g4,g5,g6⟩
   ·have he:=(hm.ov g1 hV).2.1
    simp only at he
    exact⟨a,0,by rw[he];exact hv,by rw[he];exact aO _,.inl he⟩
   ·obtain⟨iQ,jG,hs,hx⟩:=hm.real g1 hV
    simp only at g5 jG hx
    rw[g5]at jG;cases jG
    simp only[aN,if_false]at hx
    exact⟨_,cap,hv,g3,.inr ⟨_,0,arr,_,_,rfl,.inr ⟨r,_,hb,g1,hV,rfl⟩,by simp,g5,ou (λb hb=>⟨.inl hb,rfl⟩) _ _ _ _ hx⟩⟩
 |ptr r i off=>
  simp only[D.Cl]
  cases hb:cf r ks with
  |false=>
   have:=IF h
   simpa only[D.ez,hb]using this
  |true=>
   obtain⟨row,g1,g2,g3,hv⟩:=h
   have hr:R.getD r none=some row:=by rw[<-hA r];exact g1
   simp only
   split
   ·rename_i ty sz e he
    rw[he]at hr;cases hr
    split
    ·rename_i hp
     obtain⟨arr,ha,hs,hx⟩:=hm.real g1 g2
     simp only[if_true]at hx
     obtain⟨e',k1,k2,k3,k4⟩:=hx
     have k1:[e]=[e']:=by injection k1
     have k1:e=e':=(List.cons.inj k1).1
     subst k1
     refine⟨c.ρ r,0,arr,ty,(0,0),?_,.inr ⟨r,_,hb,g1,g2,rfl⟩,g3,ha,oz.2 ⟨k2,Znl (λb hb=>⟨.inl hb,rfl⟩) _ _ _ (Z0b hp k4),pY.2 trivial⟩⟩
     rw[hv];simp
    ·rw[hv];rfl
   ·rw[hv];rfl
 |_=>exact IF h
theorem Zop:∀{ds:List D} {vs:List Value},jq c w ds vs->jq (c.pw R ks) w (D.sO R ks ds) vs
 |[],[],_=>trivial
 |_::_,_::_,h=>⟨W4 hm hA h.1,Zop h.2⟩
 |[],_::_,h=>h.elim
 |_::_,[],h=>h.elim
theorem Zq0(h:VRep c w d v):VRep (c.pw R ks) w (d.IG R ks) v:=by
 cases d with
 |agg cs=>obtain⟨vs,hv,hr⟩:=h;exact⟨vs,hv,Zop hm hA hr⟩
 |_=>
  have:=W4 (ks:=ks) hm hA (VRep.toC (λcs e=>by cases e) h)
  exact VRep.Fi this
theorem Zpc:∀{ds:List D} {vs:List Value},kp c w ds vs->kp (c.pw R ks) w (D.IH R ks ds) vs
 |[],[],_=>trivial
 |_::_,_::_,h=>⟨Zq0 hm hA h.1,Zpc h.2⟩
 |[],_::_,h=>h.elim
 |_::_,[],h=>h.elim
theorem qI(h:Rep c w d v):Rep (c.pw R ks) w (d.Cm R ks) v:=by
 cases d with
 |dt ds=>obtain⟨vs,hv,hr⟩:=h;exact⟨vs,hv,Zpc hm hA hr⟩
 |dead=>trivial
 |_=>
  have:=Zq0 (ks:=ks) hm hA (Rep.toV (λds e=>by cases e) (λe=>by cases e) h)
  exact Rep.KW this
theorem Zi5:∀{ds:List D} {arr:Array Value} {off:Nat},kU c w ds arr off->kU (c.pw R ks) w (D.sO R ks ds) arr off
 |[],_,_,_=>trivial
 |_::_,_,_,⟨⟨v,hv,h1⟩,h2⟩=>⟨⟨v,hv,W4 hm hA h1⟩,Zi5 h2⟩
theorem qaf(h:Fl c w r row):Fl (c.pw R ks) w r (row.mC R ks):=by
 obtain⟨s1,s2,s3,s4⟩:=Zij R ks row
 rcases h with⟨h0,h1,h2,h3⟩|⟨h0,arr,ha,hs,hx⟩
 ·refine .inl ⟨h0,s1.trans h1,?_,by rw[s3];exact h3⟩
  rw[h2]at s4;exact List.eq_nil_of_length_eq_zero s4
 ·refine .inr ⟨h0,arr,by rw[s2];exact ha,by rw[s3];exact hs,?_⟩
  rw[s1,s3]
  split
  ·rename_i hb
   simp only[hb,if_true]at hx
   obtain⟨e,k1,k2,k3,k4⟩:=hx
   obtain⟨box,ty,sz,es⟩:=row
   simp only at hb k1 k2 k3 k4
   subst hb;subst k1
   exact⟨D.sO R ks e,rfl,by rw[Z6x];exact k2,k3,Zi5 hm hA k4⟩
  ·rename_i hb
   simp only[hb,aN,if_false]at hx
   have he:(row.mC R ks).es=row.es:=by
    unfold Row.mC
    split
    ·simp at hb
    ·rfl
   rw[he];exact ou (λb hb=>⟨.inl hb,rfl⟩) _ _ _ _ hx
omit hm hA in
theorem KZ{x:Row}(h:(c.pw R ks).R r=some x):cf r ks=false/\∃row,c.R r=some row/\x=row.mC R ks:=by
 simp only[Ctx.pw]at h
 cases hb:cf r ks with
 |true=>rw[hb]at h;simp at h
 |false=>
  rw[hb]at h
  simp only[aN,if_false,Option.map_eq_some_iff]at h
  obtain⟨row,h1,h2⟩:=h
  exact⟨rfl,row,h1,h2.symm⟩
theorem zaf:Mem (c.pw R ks) w:=by
 refine⟨λr x hx=>?_,λr s x y hx hy v1 v2 he=>?_,λb hb=>?_,hm.top,hm.kY.mono λb hb=>⟨.inl hb,rfl⟩⟩
 ·obtain⟨_,row,h1,rfl⟩:=KZ hx
  exact qaf hm hA (hm.row r row h1)
 ·obtain⟨_,row,h1,_⟩:=KZ hx
  obtain⟨_,ao,h2,_⟩:=KZ hy
  exact hm.inj r s row ao h1 h2 v1 v2 he
 ·rcases hb with hb|⟨s,row,h1,h2,h3,rfl⟩
  ·refine⟨(hm.fu b hb).1,λr x hx v=>?_⟩
   obtain⟨_,row,h1,_⟩:=KZ hx
   exact(hm.fu b hb).2 r row h1 v
  ·refine⟨hm.lt h2 h3,λr x hx v e=>?_⟩
   obtain⟨h4,ao,h5,_⟩:=KZ hx
   have:=hm.inj r s ao row h5 h2 v h3 e
   rw[this,h1]at h4;cases h4
end
theorem Zbo{R0:Rows}{ks:List Nat}:∀{R:Rows} {i r:Nat},(Zc R0 ks R i).getD r none=if cf (i+r) ks=true then none else(R.getD r none).map (Row.mC R0 ks)
 |[],i,r=>by simp[Zc]
 |x::l,i,0=>by
  simp only[Zc,bG]
  cases cf i ks<;>cases x<;>simp
 |x::l,i,r+1=>by
  have:=Zbo (R0:=R0) (ks:=ks) (R:=l) (i:=i+1) (r:=r)
  rw[show i+1+r=i+(r+1) by omega]at this
  simpa[Zc]using this
def uF(R:Rows)(ks:List Nat)(env:List (Nat×D)):List (Nat×D):=env.map λx=>(x.1,x.2.Cm R ks)
theorem Zor{R:Rows}{ks:List Nat}:∀{env:List (Nat×D)} {K:List (Nat×D)->Prop},Fm R ks env K↔K (uF R ks env)
 |[],_=>Iff.rfl
 |(t,d)::l,K=>by
  simp only[Fm,D.cu]
  rw[Zor (env:=l) (K:=λl=>K ((t,d.Cm R ks)::l))]
  rfl
theorem Zqi{R:Rows}{ks:List Nat}:∀{env:List (Nat×D)} {t:Nat},look (uF R ks env) t=(look env t).Cm R ks
 |[],_=>rfl
 |(u,d)::l,t=>by
  simp only[uF,List.map_cons,look]
  split
  ·rfl
  ·exact Zqi (env:=l)
theorem W5{M:Nat}{R:Rows}:∀{l:List Nat} {r:Nat},r∈uG M R l->M<=r
 |x ::l,r,h=>by
  simp only[uG]at h
  split at h
  ·rename_i hb
   rcases List.mem_cons.1 h with e|h
   ·rw[e];rw[aE]at hb;exact lE hb.1
   ·exact W5 h
  ·exact W5 h
theorem xaf{c0:Ctx}{c:Ctx}(h:II T G M ops st K)(hs:fw N M c0 w0 c w st a):∃jx c',K jx/\fw N M c0 w0 c' w jx a:=by
 unfold II at h
 split at h
 ·exact⟨st,c,h,hs⟩
 ·rename_i ks hk
  have hM:∀k,cf k (uG M st.rows (Tb T G st.env st.rows [] [] ops.toList))=true->M<=k:=λk hk=>W5 (oA.1 hk)
  generalize uG M st.rows (Tb T G st.env st.rows [] [] ops.toList)=ks at*
  rw[Zor,ny]at h
  have hm:=zaf (ks:=ks) hs.mem hs.rows
  refine⟨_,c.pw st.rows ks,h,hm,λr=>?_,λt=>?_,hs.size,hs.defers,hs.gh,hs.gy,hs.reach.step (ks:=ks) hM hs.gy ⟨hm,Zh9,Fr.refl _ w,λb hb=>?_,λr ao hr hv=>?_⟩⟩
  ·rw[Zbo,aX,<-hs.rows r];rfl
  ·rw[Zqi];exact qI hs.mem hs.rows (hs.env t)
  ·rcases hb with hb|hb
   ·exact .inl hb
   ·exact .inr (.inl hb)
  ·obtain⟨_,row,h1,_⟩:=KZ hr
   exact .inl ⟨⟨row,h1⟩,hv,rfl⟩
theorem qc{c:Ctx}(hm:Mem c w){e e':List D}(hr:c.R r=some ⟨true,ty,sz,.gen [e]⟩)(hl:e'.length=e.length)(hc:∀arr,kU c w e arr 0->kU c w e' arr 0):jn c w (c.jF r ⟨true,ty,sz,.gen [e']⟩) w/\Mem (c.jF r ⟨true,ty,sz,.gen [e']⟩) w:=by
 have hg:jn c w (c.jF r ⟨true,ty,sz,.gen [e']⟩) w:=by
  refine⟨rfl,aO _,λb hb=>⟨hb,rfl⟩,λs x hs=>?_⟩
  by_cases e:s=r
  ·subst e
   rw[hr]at hs;cases hs
   exact⟨⟨true,ty,sz,.gen [e']⟩,by simp[Ctx.jF],rfl,rfl,rfl,rfl,rfl,Iff.rfl,λ_ a ha=>⟨a,ha,rfl⟩⟩
  ·exact⟨x,by simp[Ctx.jF,e,hs],rfl,rfl,rfl,rfl,rfl,Iff.rfl,λ_ a ha=>⟨a,ha,rfl⟩⟩
 have jE:∀s x,(c.jF r ⟨true,ty,sz,.gen [e']⟩).R s=some x->∃x',c.R s=some x':=λs x hs=>by
  by_cases e:s=r
  ·exact⟨_,by rw[e];exact hr⟩
  ·exact⟨x,by simpa[Ctx.jF,e]using hs⟩
 refine⟨hg,λs x hs=>?_,λs q x y hs hq v1 v2 he=>?_,λb iH=>⟨(hm.fu b iH).1,λs x hs hv=>?_⟩,hm.top,hm.kY⟩
 ·by_cases es:s=r
  ·subst es
   simp only[Ctx.jF,if_true,Option.some.injEq]at hs
   subst hs
   rcases hm.row _ _ hr with⟨g0,g1,g2,g3⟩|⟨g0,arr,g1,g2,g3⟩
   ·cases g1
   ·refine .inr ⟨g0,arr,g1,g2,?_⟩
    simp only[if_true]at g3⊢
    obtain⟨e0,q1,q2,q3,q4⟩:=g3
    cases q1
    exact⟨e',rfl,hl.trans q2,q3,NM hg (hc arr q4)⟩
  ·have jl:c.R s=some x:=by simpa[Ctx.jF,es]using hs
   exact um hg rfl Iff.rfl (λ_=>rfl) (hm.row s x jl)
 ·obtain⟨x',jI⟩:=jE s x hs
  obtain⟨y',AB⟩:=jE q y hq
  exact hm.inj s q x' y' jI AB v1 v2 he
 ·obtain⟨x',jI⟩:=jE s x hs
  exact(hm.fu b iH).2 s x' jI hv
theorem xc(h:uH T R i=some (ty,sz,e,n)):0<n/\∃d,R.getD i none=some ⟨true,ty,sz,.gen [[d]]⟩/\(d=.dx\/d=.emp):=by
 unfold uH at h
 split at h
 ·rename_i j6 kJ d hr
  have go:∀{x:Option (TypeId×Nat×TypeId×Nat)},x=some (ty,sz,e,n)->(x=match T.get j6 with|some ⟨.slice e n,_,_,_,_,_⟩=>(match bJ 0 n with|true=>some (j6,kJ,e,n)|false=>none)|_=>none)->0<n/\j6=ty/\kJ=sz:=by
   intro x hx hy
   rw[hx]at hy
   split at hy
   ·split at hy
    ·rename_i hb;cases hy;exact⟨lE hb,rfl,rfl⟩
    ·cases hy
   ·cases hy
  split at h
  ·obtain⟨h1,rfl,rfl⟩:=go h rfl
   exact⟨h1,_,hr,.inl rfl⟩
  ·obtain⟨h1,rfl,rfl⟩:=go h rfl
   exact⟨h1,_,hr,.inr rfl⟩
  ·cases h
 ·cases h
theorem GG{N M:Nat}{c0:Ctx}{w0:World}{w:World}{a:Act}{T:iM}{env:List (Nat×D)}{K:Rows->Prop}:∀{l:List iJ} {R:Rows} {c:Ctx},IJ T l env R K->fw N M c0 w0 c w ⟨env,R⟩ a->∃R' c',K R'/\fw N M c0 w0 c' w ⟨env,R'⟩ a
 |[],R,c,h,hs=>⟨R,c,h,hs⟩
 |.int _ _::l,R,c,h,hs=>GG (l:=l) h hs
 |.arr _::l,R,c,h,hs=>GG (l:=l) h hs
 |.sl _ _ _::l,R,c,h,hs=>GG (l:=l) h hs
 |.fn _ _::l,R,c,h,hs=>GG (l:=l) h hs
 |.ptr i _ _::l,R,c,h,hs=>by
  simp only[IJ]at h
  split at h
  rotate_left
  ·exact GG (l:=l) h hs
  rename_i ty sz u n hr
  obtain⟨h0,d,h2,hd⟩:=xc hr
  simp only[ny,Qx]at h
  have bz:i<R.length:=by
   by_cases bz:i<R.length
   ·exact bz
   ·rw[aK,aM (by omega)]at h2;cases h2
  rw[List.set_append_left _ _ bz]at h
  have hi:c.R i=some ⟨true,ty,sz,.gen [[d]]⟩:=by rw[hs.rows];exact h2
  have hn:c.R R.length=none:=by rw[hs.rows,aK,aM (aO _)];rfl
  have gv:i≠R.length:=by omega
  have IK:=W6 hs.mem hn (row:=⟨false,u,n,.gen []⟩) rfl rfl h0
  have W7:=Tc (w:=w) hn ⟨false,u,n,.gen []⟩
  have W8:(c.jv R.length ⟨false,u,n,.gen []⟩).R i=some ⟨true,ty,sz,.gen [[d]]⟩:=by simp[Ctx.jv,gv,hi]
  obtain⟨W9,Cn⟩:=qc (e':=[.all R.length]) IK W8 rfl (λarr hc=>by
   obtain⟨⟨v,hv,h1⟩,_⟩:=hc
   refine⟨⟨v,hv,⟨false,u,n,.gen []⟩,by simp[Ctx.jv],rfl,.inl ⟨.inl rfl,?_⟩⟩,trivial⟩
   rcases hd with rfl|rfl
   ·exact⟨none,h1,NN⟩
   ·exact h1)
  have hg:=W7.trans W9
  have nJ:lY c w ((c.jv R.length ⟨false,u,n,.gen []⟩).jF i ⟨true,ty,sz,.gen [[.all R.length]]⟩) w:=by
   refine⟨Cn,hg,Fr.refl _ w,λb hb=>.inl hb,λr ao hr hv=>.inl ?_⟩
   have AF:r≠R.length:=λe=>hv (.inl e)
   by_cases er:r=i
   ·subst er;exact⟨⟨_,hi⟩,λe=>hv (.inr e),rfl⟩
   ·exact⟨⟨ao,by simpa[Ctx.jF,Ctx.jv,er,AF]using hr⟩,λe=>hv (.inr e),rfl⟩
  refine GG (l:=l) h ⟨Cn,λr=>?_,λt=>Ax hg (hs.env t),hs.size,hs.defers,hs.gh,hs.gy,hs.reach.step (ks:=[]) (λk hk=>by simp[cf]at hk) hs.gy nJ.toK⟩
  simp only[Ctx.jF,Ctx.jv]
  by_cases er:r=i
  ·subst er
   simp[aK,aZ (show r<(R.set r _).length by simpa using bz),bz]
  ·rw [if_neg er]
   by_cases en:r=R.length
   ·subst en
    simp[aK]
   ·rw[if_neg en,hs.rows]
    by_cases hl:r<R.length
    ·simp[aK,aZ (show r<(R.set i _).length by simpa using hl),List.getElem?_set_ne (Ne.symm er)]
    ·have h1:R.getD r none=none:=by rw[aK,aM (by omega)];rfl
     rw[h1,aK,aM (by simp;omega)];rfl
