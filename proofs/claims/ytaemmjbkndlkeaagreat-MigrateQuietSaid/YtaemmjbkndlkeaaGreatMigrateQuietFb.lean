import Derived.Test.YtaemmjbkndlkeaaGreatMigrateQuietFk
import Derived.Laws.IdiomStrings
import Derived.Laws.BytesArg
import Derived.Laws.Cover3
import Derived.RangeFuncRecord
import Derived.OrdersIn
import Derived.LoopNIn
open List renaming getD->aV,getElem?_take->aF,getElem?_toArray->bH,getElem?_append_left->bI,size_toArray->aK,getElem?_append_right->bJ,length_take->aD,length_drop->aG,getElem?_eq_none->aJ,range'->bO,map_append->bP,map_congr_left->bQ,ext_getElem->bR,getElem_map->bS,getElem_range'->bT,map_toArray->bV
open Nat renaming mul_le_mul_right->bD,succ_mul->bF,zero_add->bG,add_mul->bK,le_refl->aX,add_zero->aB,le_trans->bL,lt_of_lt_of_le->bM,blt->bN
open Bool renaming or_eq_true->aT,false_eq_true->aA
open Array renaming getD->aY,empty_append->bU,toArray_toList->bW
open Option renaming bind_some->aW
set_option linter.all false
namespace Go.GD
open Go
variable {B M N g i id j k n r sz:Nat}{G:List ba}{I:ab}{K:D->Prop}{P:Program}{Q:Exit->Act->World->Prop}{R R':Rows}{T:iB}{a:Act}{after:Array Edge}{args:Array Operand}{b want:Bool}{cs:List iD}{d val x:D}{ds:List Deferred}{dst:Option Tmp}{e ty type:TypeId}{es:ai}{ev:Operand->D}{ks:List Nat}{news us:List Value}{o:Oper}{ops:Array Oper}{pos:String}{ro:Option Nat}{row:Row}{st:St}{dj:Array TypeId}{v:Value}{w w' w0:World}
theorem Zhp(w:World){t tx ty e:TypeId}{i:TypeInfo}(ht:P.underlying t=some (.slice e))(hi:P.info? e=some i)
 {a:Option Addr} {n cap m:Nat} {x:Value} {news:List Value} (hl:(Builtin.lenOf x).run P w=.ok m w) (hf:(Builtin.firstCells i.size (min m n) x).run P w=.ok news.toArray w) {w':World}
 (jW:∀b,a=some b->(storeCells b news).run P w=.ok () w') (mZ:a=none->w'=w):
 (Builtin.copy_ #[t,tx] ty #[.slice a n cap,x]).run P w=.ok (.int .i64 (min m n:Nat)) w':=by
 cases a with
 |none=>
  have:=mZ rfl
  subst this
  simp[Builtin.copy_,run_underlying ht,sizeOf,typeInfo,hi,hl,goInt,hf]
 |some b=>simp[Builtin.copy_,run_underlying ht,sizeOf,typeInfo,hi,hl,goInt,hf,jW b rfl]
theorem Zbo{es:List (List D)}(h:iq I w es news.toArray 0 sz)(hk:k<=es.length):iq I w (es.take k) (news.take (k*sz)).toArray 0 sz:=by
 rw[tn]at h⊢
 intro i hi
 have iF:i<k:=by simp at hi;omega
 obtain⟨h1,h2⟩:=h i (by omega)
 have he:(es.take k).getD i []=es.getD i []:=by simp[aV,aF,iF]
 rw[he]
 refine⟨h1,?_⟩
 rw[tP]at h2⊢
 intro j hj
 obtain⟨v,hv,hp⟩:=h2 j hj
 refine⟨v,?_,hp⟩
 have bd:i*sz+j<k*sz:=by
  have:=bD sz (show i+1<=k by omega)
  rw[bF]at this
  omega
 simp only[bG,bH]at hv⊢
 rw[aF,if_pos bd]
 exact hv
theorem Z2d{es ys:List (List D)}{A B:List Value}(h1:iq I w es A.toArray 0 sz)(hA:A.length=es.length*sz)(h2:iq I w ys B.toArray 0 sz):iq I w (es++ys) (A++B).toArray 0 sz:=by
 rw[tn]at h1 h2⊢
 intro i hi
 by_cases bd:i<es.length
 ·have he:(es++ys).getD i []=es.getD i []:=by simp[aV,bI bd]
  rw[he]
  obtain⟨g1,g2⟩:=h1 i bd
  refine⟨g1,?_⟩
  rw[tP]at g2⊢
  intro j hj
  obtain⟨v,hv,hp⟩:=g2 j hj
  refine⟨v,?_,hp⟩
  have hl:=(Array.getElem?_eq_some_iff.1 hv).1
  simp only[bH,aK]at hv hl⊢
  rw[bI hl];exact hv
 ·have iF:i-es.length<ys.length:=by simp at hi;omega
  have he:(es++ys).getD i []=ys.getD (i-es.length) []:=by simp[aV,bJ (show es.length<=i by omega)]
  rw[he]
  obtain⟨g1,g2⟩:=h2 _ iF
  refine⟨g1,?_⟩
  rw[tP]at g2⊢
  intro j hj
  obtain⟨v,hv,hp⟩:=g2 j hj
  refine⟨v,?_,hp⟩
  simp only[bH]at hv⊢
  have e:0+i*sz+j=A.length+(0+(i-es.length)*sz+j):=by
   rw[hA,show i*sz=(es.length+(i-es.length))*sz by congr 1;omega,bK];omega
  rw[e,bJ (by omega)]
  rw[show A.length+(0+(i-es.length)*sz+j)-A.length=0+(i-es.length)*sz+j by omega]
  exact hv
theorem Ztg{es:List (List D)}{arr:Array Value}(h:iq I w es arr 0 sz):iq I w (es.drop k) (arr.toList.drop (k*sz)).toArray 0 sz:=by
 have:=J0 (l:=k) h
 rw[tn]at this⊢
 intro i hi
 obtain⟨h1,h2⟩:=this i hi
 refine⟨h1,?_⟩
 rw[tP]at h2⊢
 intro j hj
 obtain⟨v,hv,hp⟩:=h2 j hj
 refine⟨v,?_,hp⟩
 simp only[bH,List.getElem?_drop]
 rw[<-hv]
 simp[Nat.add_assoc]
theorem yF{c:Ctx}(hm:Mem c w){row ao:Row}(hr:c.R r=some row)(h1:ao.box=row.box)(hb:row.box=false)(h2:ao.ty=row.ty)(h3:ao.sz=row.sz)(h4:ao.es.l=row.es.l):jc c w (c.jP r ao) w/\Mem (c.jP r ao) w:=by
 have hg:jc c w (c.jP r ao) w:=by
  refine⟨rfl,aX _,λb hb=>⟨hb,rfl⟩,λs x hs=>?_⟩
  by_cases e:s=r
  ·subst e
   rw[hr]at hs;cases hs
   exact⟨ao,by simp[Ctx.jP],h1,h2,h3,by rw[h4],rfl,Iff.rfl,λ_ a ha=>⟨a,ha,rfl⟩⟩
  ·exact⟨x,by simp[Ctx.jP,e,hs],rfl,rfl,rfl,rfl,rfl,Iff.rfl,λ_ a ha=>⟨a,ha,rfl⟩⟩
 have jC:∀s x,(c.jP r ao).R s=some x->∃x',c.R s=some x':=λs x hs=>by
  by_cases e:s=r
  ·exact⟨row,by rw[e];exact hr⟩
  ·exact⟨x,by simpa[Ctx.jP,e]using hs⟩
 refine⟨hg,λs x hs=>?_,λs q x y hs hq v1 v2 he=>?_,λb ig=>⟨(hm.fh b ig).1,λs x hs hv=>?_⟩,hm.top,hm.jV⟩
 ·by_cases e:s=r
  ·subst e
   simp only[Ctx.jP,if_true,Option.some.injEq]at hs
   subst hs
   rcases hm.row _ row hr with⟨g0,g1,g2,g3⟩|⟨g0,arr,g1,g2,g3⟩
   ·exact .inl ⟨g0,h1.trans g1,h4.trans g2,by rw[h3];exact g3⟩
   ·refine .inr ⟨g0,arr,by rw[h2];exact g1,by rw[h3];exact g2,?_⟩
    rw[if_neg (by rw[hb];simp)]at g3
    rw[if_neg (by rw[h1,hb];simp),h4,h3]
    exact g3
  ·have iV:c.R s=some x:=by simpa[Ctx.jP,e]using hs
   exact tk hg rfl Iff.rfl (λ_=>rfl) (hm.row s x iV)
 ·obtain⟨x',jJ⟩:=jC s x hs
  obtain⟨y',w5⟩:=jC q y hq
  exact hm.inj s q x' y' jJ w5 v1 v2 he
 ·obtain⟨x',jJ⟩:=jC s x hs
  exact(hm.fh b ig).2 s x' jJ hv
theorem za(hT:ji P T){t tx ty:TypeId}{x y:D}{K:D->Rows->Prop}(h:tQ T t tx x y R K):
 ∃ val R',K val R'/\∀c w vx vy,Mem c w->(∀r,c.R r=R.getD r none)->Rep c w x vx->Rep c w y vy->
  ∃v' w' c',(Builtin.copy_ #[t,tx] ty #[vx,vy]).run P w=.ok v' w'/\lJ c w c' w'/\(∀r,c'.R r=R'.getD r none)/\Rep c' w' val v':=by
 unfold tQ at h
 split at h
 ·rename_i e iJ _ _ _ _ _ ht
  have hk:=mA hT ht
  simp only at hk
  split at h
  ·rename_i ke sz lB cs z q kx _ _ _ _ _ he htx
   obtain⟨i0,pz,Bx,_,J1,w6,_⟩:=Dt (hT.get he)
   simp only at Bx
   split at h
   ·rename_i sy ys jR
    simp only[dd,aE,aT]at h
    obtain⟨⟨⟨h0,h1⟩,h5⟩,h⟩:=h
    have h0:0<sz:=lE h0
    have h5:sy=sz\/ys.l=[]:=h5.imp bE Sl
    have core:∀(r o n k:Nat) (jS:TypeId) (es iX:ai),iX.l=es.l.take o++ys.l.take k++es.l.drop (o+k)->R.getD r none=some ⟨false,jS,sz,es⟩->k=min ys.l.length n->o+n<=es.l.length->∀c w vx vy,Mem c w->(∀r,c.R r=R.getD r none)->
     ((n=0/\∃a,vx=.slice a 0 0)\/(¬c.V r/\∃cap arr,vx=.slice (some ⟨c.ρ r,o*sz,none⟩) n cap/\w.heap[c.ρ r]?=some (.cells arr jS (0,0))))->Rep c w y vy->
     ∃v' w' c',(Builtin.copy_ #[t,tx] ty #[vx,vy]).run P w=.ok v' w'/\lJ c w c' w'/\(∀q,c'.R q=(R.set r (some ⟨false,jS,sz,iX⟩)).getD q none)/\v'=.int .i64 (k:Nat):=by
     intro r o n k jS es iX HO hr uW J2 c w vx vy hm hR hx hy
     have oR:ma c R:=λr row ao g1 g2=>by rw[hR,g2]at g1;exact(Option.some.inj g1).symm
     obtain⟨news,s1,s2,s3,s4⟩:=z7 (P:=P) h0 jR h5 hm oR hy
     have c6:c.R r=some ⟨false,jS,sz,es⟩:=by rw[hR];exact hr
     rcases hx with⟨hn0,a,hx⟩|⟨hV,cap,arr,hx,hh⟩
     ·subst hx
      have w6:k=0:=by omega
      have il:=Zhp (P:=P) w (ty:=ty) (tx:=tx) (a:=a) (n:=0) (cap:=0) (news:=[]) (w':=w) hk.1 pz s2 (by rw[Bx];simpa using s3 0 (Nat.zero_le _) w rfl) (λb _=>by simp[storeCells]) (λ_=>rfl)
      have hl:iX.l=es.l:=by rw[HO,w6];simp
      obtain⟨u1,u2⟩:=yF hm c6 (ao:=⟨false,jS,sz,iX⟩) rfl rfl rfl rfl hl
      refine⟨_,w,c.jP r ⟨false,jS,sz,iX⟩,il,⟨u2,u1,Fr.refl _ w,λb hb=>.inl hb,λq row hq v=>.inl ⟨?_,v,rfl⟩⟩,λq=>?_,by rw[w6];simp⟩
      ·by_cases e:q=r
       ·exact⟨_,by rw[e];exact c6⟩
       ·exact⟨row,by simpa[Ctx.jP,e]using hq⟩
      ·rw[FQ hr]
       simp only[Ctx.jP]
       split
       ·rfl
       ·exact hR q
     ·subst hx
      obtain⟨cur,ha,_,hE⟩:=hm.real c6 hV
      simp only at ha
      rw[hh]at ha;cases ha
      simp only[aA,if_false]at hE
      have kI:es.l.length*sz<=arr.size:=by
       by_cases he:es.l.length=0
       ·rw[he];omega
       ·have:=Z55 hE h0 (show es.l.length-1<es.l.length by omega)
        have e1:es.l.length*sz=(es.l.length-1)*sz+sz:=by rw[show es.l.length*sz=(es.l.length-1+1)*sz by congr 1;omega,bF]
        omega
      have VZ:k<=ys.l.length/\k<=n:=by omega
      have mI:o*sz+0+(news.take (k*sz)).length<=arr.size:=by
       have h1:(o+k)*sz<=es.l.length*sz:=bD _ (by omega)
       rw[bK]at h1
       rw[aD];omega
      have hlen:(news.take (k*sz)).length=k*sz:=by
       have:=bD sz VZ.1
       rw[aD];omega
      have jW:=run_storeCells_at (P:=P) (c.ρ r) (o*sz) jS (news.take (k*sz)) 0 arr w hh mI (λu hu=>iq.one s4 s1 u (List.mem_of_mem_take hu))
      have il:=Zhp (P:=P) w (ty:=ty) (tx:=tx) (a:=some ⟨c.ρ r,o*sz,none⟩) (n:=n) (cap:=cap) (news:=news.take (k*sz)) (w':=w.setRow (c.ρ r) (arr.toList.take (o*sz+0)++news.take (k*sz)++arr.toList.drop (o*sz+0+(news.take (k*sz)).length)).toArray) hk.1 pz s2 (by rw[Bx,<-uW];exact s3 k VZ.1 w rfl) (λb hb=>by cases hb;simpa using jW) (λh=>by cases h)
      have uZ:iX.l.length=es.l.length:=by rw[HO];simp only[lA,aD,aG];omega
      have hw:=hm.write (ao:=⟨false,jS,sz,iX⟩) c6 hV hh (arr:=(arr.toList.take (o*sz+0)++news.take (k*sz)++arr.toList.drop (o*sz+0+(news.take (k*sz)).length)).toArray)
       (by simp only[aK,lA,aD,aG,Array.length_toList];simp only[aD]at mI;omega) rfl rfl rfl uZ
      have je:=hw.2 ⟨h0,by
       simp only[aA,if_false]
       rw[HO]
       refine nq (λb hb=>⟨hb,(hw.1.I b hb).2⟩) _ _ _ _ ?_
       have p1:=Zbo (k:=o) (I:=c.I) (w:=w) (news:=arr.toList) (es:=es.l) (sz:=sz) (by simpa using hE) (by omega)
       have p2:=Zbo (k:=k) s4 VZ.1
       have p3:=Ztg (k:=o+k) hE
       have l1:(arr.toList.take (o*sz)).length=(es.l.take o).length*sz:=by
        have:=bD sz (show o<=es.l.length by omega)
        rw[aD,aD,show min o es.l.length=o by omega,show arr.toList.length=arr.size from rfl];omega
       have q1:=Z2d p1 l1 p2
       have l2:(arr.toList.take (o*sz)++news.take (k*sz)).length=(es.l.take o++ys.l.take k).length*sz:=by
        rw[lA,l1,hlen,lA,bK,aD (l:=ys.l),show min k ys.l.length=k by omega]
       have q2:=Z2d q1 l2 p3
       have e2:o*sz+0+(news.take (k*sz)).length=(o+k)*sz:=by rw[hlen,bK];omega
       rw[e2]
       simpa using q2⟩
      refine⟨_,_,c.jP r ⟨false,jS,sz,iX⟩,il,⟨je,hw.1,(R9 w _ _).mono λb _ hb=>⟨r,_,c6,hV,hb.symm⟩,λb hb=>.inl hb,λq ao hq v=>.inl ⟨?_,v,rfl⟩⟩,λq=>?_,by rw[uW]⟩
      ·by_cases e:q=r
       ·exact⟨_,by rw[e];exact c6⟩
       ·exact⟨ao,by simpa[Ctx.jP,e]using hq⟩
      ·rw[FQ hr]
       simp only[Ctx.jP]
       split
       ·rfl
       ·exact hR q
    cases x<;>simp only at h
    case all r=>
     split at h
     ·rename_i jS s es hr
      simp only[dd,nf]at h
      have hs:=bE h.1
      subst hs
      refine⟨_,_,h.2,λc w vx vy hm hR hx hy=>?_⟩
      obtain⟨row,q1,q2,hv⟩:=hx
      have c6:row=⟨false,jS,s,es⟩:=by rw[hR,hr]at q1;exact(Option.some.inj q1).symm
      subst c6
      have jJ:(es.l.length=0/\∃a,vx=.slice a 0 0)\/(¬c.V r/\∃cap arr,vx=.slice (some ⟨c.ρ r,0*s,none⟩) es.l.length cap/\w.heap[c.ρ r]?=some (.cells arr jS (0,0))):=by
       rcases hv with⟨hV,a,hv,_⟩|⟨hV,cap,arr,hv,h1,h2,h3,h4⟩
       ·have:=(hm.nm q1 hV).2.1
        simp only at this
        exact .inl ⟨by rw[this];rfl,a,hv⟩
       ·exact .inr ⟨hV,cap,arr,by rw[Nat.zero_mul];exact hv,h3⟩
      obtain⟨v',w',c',p1,p2,p3,p4⟩:=core r 0 es.l.length _ jS es ((ys.take (min ys.len es.len)).app (es.drop (min ys.len es.len))) (by rw[ai.j0,ai.iZ,ai.kd,ai.iz,ai.iz];simp) hr rfl (by omega) c w vx vy hm hR jJ hy
      exact⟨v',w',c',p1,p2,p3,by rw[p4,ai.iz,ai.iz];rfl⟩
     ·exact h.elim
    case own r o n=>
     split at h
     ·rename_i jS s es hr
      simp only[dd,nf]at h
      have hs:=bE h.1
      subst hs
      refine⟨_,_,h.2,λc w vx vy hm hR hx hy=>?_⟩
      obtain⟨row,q1,q2,ho,hv⟩:=hx
      have c6:row=⟨false,jS,s,es⟩:=by rw[hR,hr]at q1;exact(Option.some.inj q1).symm
      subst c6
      have jJ:(n=0/\∃a,vx=.slice a 0 0)\/(¬c.V r/\∃cap arr,vx=.slice (some ⟨c.ρ r,o*s,none⟩) n cap/\w.heap[c.ρ r]?=some (.cells arr jS (0,0))):=by
       rcases hv with⟨h0,a,hv,_⟩|⟨hV,cap,arr,h1,h2,h3,hv,h4⟩
       ·exact .inl ⟨h0,a,hv⟩
       ·exact .inr ⟨hV,cap,arr,hv,h3⟩
      obtain⟨v',w',c',p1,p2,p3,p4⟩:=core r o n _ jS es (((es.take o).app (ys.take (min ys.len n))).app (es.drop (o+min ys.len n))) (by rw[ai.j0,ai.j0,ai.iZ,ai.iZ,ai.kd,ai.iz]) hr rfl ho c w vx vy hm hR jJ hy
      exact⟨v',w',c',p1,p2,p3,by rw[p4,ai.iz];rfl⟩
     ·exact h.elim
   ·exact h.elim
  ·exact h.elim
 ·exact h.elim
theorem Zpa{mx:Bool}{x y:D}(h:u0 mx x y K):∃val,K val/\∀(P:Program) c w vx vy,Rep c w x vx->Rep c w y vy->∃u,((mx=false->∀dj ty,(Builtin.min_ dj ty #[vx,vy]).run P w=.ok u w)/\(mx=true->∀dj ty,(Builtin.max_ dj ty #[vx,vy]).run P w=.ok u w))/\Rep c w val u:=by
 unfold u0 at h
 split at h
 ·rename_i k a k' b
  simp only[dd,decide_eq_true_eq]at h
  obtain⟨rfl,h⟩:=h
  refine⟨_,h,λP c w vx vy hx hy=>⟨_,⟨λe dj ty=>?_,λe dj ty=>?_⟩,rfl⟩⟩
  ·subst e
   rw[Rep.int.1 hx,Rep.int.1 hy]
   simp[Builtin.min_,Builtin.min2]
  ·subst e
   rw[Rep.int.1 hx,Rep.int.1 hy]
   simp[Builtin.max_,Builtin.max2]
 ·exact h.elim
theorem Zh1(hT:ji P T){t:TypeId}(h:J3 T t es K):K (.mM es)/\∀c w vx vy,(∃a n cap,vx=.slice a n cap/\(a=none->es.l=[]))->Rep c w .c9 vy->∃u,(∀x y,(do eqGuard .eql t x y vx vy;binOp .eql t vx vy).run P w=.ok u w)/\Rep c w (.mM es) u:=by
 unfold J3 at h
 split at h
 ·rename_i e n _ _ _ _ _ ht
  have hk:=mA hT ht
  simp only at hk
  refine⟨h,λc w vx vy hx hy=>?_⟩
  obtain⟨a,len,cap,hv,ib⟩:=hx
  rw[show vy=_ from hy,hv]
  refine⟨.bool a.isNone,λx y=>?_,a.isNone,rfl,λe'=>?_⟩
  ·have hg:(eqGuard .eql t x y (.slice a len cap) (.slice none 0 0)).run P w=.ok () w:=rfl
   rw[Sem.run_bind,hg]
   simp only[Result.andThen_ok,binOp]
   simp only[run_equal_slice_nil w t e a len cap hk.1,Sem.run_bind,Result.andThen_ok,Sem.run_pure]
  ·exact ib (by cases a<;>simp_all)
 ·exact h.elim
theorem vF(hT:ji P T){t:TypeId}(h:J3 T t es K):K (.mM es)/\∀s fr c w vx vy,Rep c w (.sl s es fr) vx->Rep c w .c9 vy->∃u,(∀x y,(do eqGuard .eql t x y vx vy;binOp .eql t vx vy).run P w=.ok u w)/\Rep c w (.mM es) u:=by
 obtain⟨h1,h2⟩:=Zh1 hT h
 refine⟨h1,λs fr c w vx vy hx hy=>h2 c w vx vy ?_ hy⟩
 obtain⟨a,cap,hv,hc,ib⟩:=hx
 refine⟨a,_,cap,hv,λha=>?_⟩
 rcases ib with ib|⟨b,off,arr,ty,fz,hb,_⟩
 ·exact ib
 ·rw[ha]at hb;cases hb
theorem ya(hT:ji P T){t:TypeId}{bx:Bool}{jS j4:Nat}(hR:R.getD r none=some ⟨bx,jS,j4,es⟩)(h:J3 T t es K):K (.mM es)/\∀c w vx vy,Mem c w->ma c R->Rep c w (.all r) vx->Rep c w .c9 vy->∃u,(∀x y,(do eqGuard .eql t x y vx vy;binOp .eql t vx vy).run P w=.ok u w)/\Rep c w (.mM es) u:=by
 obtain⟨h1,h2⟩:=Zh1 hT h
 refine⟨h1,λc w vx vy hm hA hx hy=>h2 c w vx vy ?_ hy⟩
 obtain⟨row,g1,g2,hv⟩:=hx
 have:=hA r row _ g1 hR
 subst this
 rcases hv with⟨hV,a,hv,_⟩|⟨hV,cap,arr,hv,_⟩
 ·exact⟨a,0,0,hv,λ_=>(hm.nm g1 hV).2.1⟩
 ·exact⟨_,_,cap,hv,λe=>by cases e⟩
theorem Zt8{l:List Int}(h:iq I w (ai.ints .u8 l).l news.toArray 0 1)(hl:news.length=(ai.ints .u8 l).l.length*1):news=l.map (Value.int .u8):=by
 have pA:news.length=l.length:=by simpa[ai.len]using hl
 apply List.ext_getElem?
 intro i
 by_cases hi:i<l.length
 ·obtain⟨h1,h2⟩:=tn.1 h i (by simpa[ai.len]using hi)
  rw[ai.ng _ (show i<(ai.ints .u8 l).len from hi)]at h2
  simp only[ai.get,Du,Dv,r4,r5,r6,r7,r8,r9,tt,tR,tS,tT,tU,tV,tW,tX,tY,tZ,and_true]at h2
  obtain⟨v,hv,hp⟩:=h2
  simp only[bG,Nat.mul_one,aB,bH]at hv
  rw[hv,hp]
  simp[aV,hi]
 ·rw[aJ (by omega),aJ (by simp;omega)]
theorem qG(hT:ji P T){s e d:TypeId}{n a1 a2:Nat}{a3:List tu}{a4:Option (List D)}{a5:Bool}(hs:T.get s=some ⟨.slice e n,a1,a2,a3,a4,a5⟩)(h:u5 T e d x R K):
 ∃val,K val/\∀c w v,Mem c w->ma c R->Rep c w x v->FR P (convert s d v) w c val:=by
 unfold u5 at h
 split at h
 ·rename_i he hd
  have nb:=mA hT hs
  have pV:=mA hT he
  have J4:=mA hT hd
  simp only at nb pV J4
  split at h
  ·rename_i sy es jR
   split at h
   rotate_left
   ·exact h.elim
   rename_i l hto
   have FT:=ai.toI_l hto
   simp only[dd,aT]at h
   obtain⟨h5,h⟩:=h
   have h5:sy=1\/es.l=[]:=h5.imp bE Sl
   refine⟨_,h,λc w v hm hA hr=>?_⟩
   have hsl:∃a cap,v=.slice a es.l.length cap:=by
    cases x<;>simp only[sc]at jR<;>try(cases jR;done)
    case c9=>cases jR;exact⟨none,0,hr⟩
    case emp=>cases jR;obtain⟨a,hr,_⟩:=hr;exact⟨a,0,hr⟩
    case sl=>cases jR;obtain⟨a,cap,hv,_⟩:=hr;exact⟨a,cap,hv⟩
    case all r=>
     split at jR
     ·rename_i jS s' iX hR
      cases jR
      obtain⟨row,g1,g2,hv⟩:=hr
      have:=hA r row _ g1 hR
      subst this
      rcases hv with⟨hV,a,hv,_⟩|⟨hV,cap,arr,hv,_⟩
      ·have he:=(hm.nm g1 hV).2.1
       simp only at he
       exact⟨a,0,by rw[he];exact hv⟩
      ·exact⟨_,cap,hv⟩
     ·cases jR
    case own r o m=>
     split at jR
     ·rename_i jS s' iX hR
      cases jR
      obtain⟨row,g1,g2,g5,hv⟩:=hr
      have:=hA r row _ g1 hR
      subst this
      simp only at g5
      have hlen:((iX.drop o).take m).l.length=m:=by rw[ai.iZ,ai.kd];simp only[aD,aG];omega
      rw[hlen]
      rcases hv with⟨h0,a,hv,_⟩|⟨hV,cap,arr,_,_,_,hv,_⟩
      ·subst h0;exact⟨a,0,hv⟩
      ·exact⟨_,cap,hv⟩
     ·cases jR
   obtain⟨a,cap,hv⟩:=hsl
   subst hv
   obtain⟨news,s1,s2,s3,s4⟩:=y6 (P:=P) (by omega) jR h5 hm hA hr
   rw[FT]at s1 s4
   have hn:=Zt8 s4 s1
   have hlen:es.l.length=l.length:=by rw[FT];simp[ai.len]
   have hf:=s3 es.l.length (aX _) w rfl
   rw[List.take_of_length_le (by rw[hn,hlen];simp)]at hf
   refine⟨.string ⟨(bytesOf l).toArray⟩,?_,rfl⟩
   rw[run_convert_bytes_string w s d e a es.l.length cap nb.1 pV J4]
   cases a with
   |none=>
    simp only[Builtin.firstCells,Sem.run_pure,Result.ok.injEq,and_true]at hf
    have h1:news=[]:=by
     have:=congrArg Array.toList hf
     simpa using this.symm
    have he:l=[]:=by rw[h1]at hn;simpa using hn.symm
    subst he
    simp only[Conv.bytesToString,Sem.run_pure,bytesOf,List.map_nil]
    rfl
   |some a=>
    simp only[Builtin.firstCells,Nat.mul_one]at hf
    rw[hn]at hf
    rw[run_bytesToString w a es.l.length cap _ hf,foldl_push_bytes]
    have he0:ByteArray.empty.data= #[]:=rfl
    rw[he0]
    simp[bytesOf]
  ·exact h.elim
 ·exact h.elim
structure wW(c0:Ctx)(w0:World)(c:Ctx)(w:World):Prop where
 cz:jc c0 w0 c w
 fr:Fr (λb=>(∃r x,c0.R r=some x/\¬c0.V r/\c0.ρ r=b)\/c0.X b) w0 w
 fh:∀b,c.I b->c0.I b\/c0.X b\/w0.heap.size<=b
 ob:∀r row,c.R r=some row->¬c.V r->((∃x,c0.R r=some x)/\¬c0.V r/\c.ρ r=c0.ρ r)\/c0.X (c.ρ r)\/w0.heap.size<=c.ρ r
 xb:∀b,c0.X b->c0.base<=b
theorem wW.refl(c:Ctx)(w:World):wW {c with X:=λ_=>False} w c w:=
 ⟨⟨rfl,aX _,λ_ h=>⟨h,rfl⟩,λ_ row h=>⟨row,h,rfl,rfl,rfl,rfl,rfl,Iff.rfl,λ_ arr h=>⟨arr,h,rfl⟩⟩⟩,Fr.refl _ w,λ_ h=>.inl h,λ_ row h v=>.inl ⟨⟨row,h⟩,v,rfl⟩,λ_ h=>h.elim⟩
theorem Zmg{c0 c:Ctx}(hM:∀k,cw k ks=true->M<=k)(Ec:∀r row,c0.R r=some row->r<M)(h:jc c0 w0 c w):jc c0 w0 (c.kill ks) w:=by
 refine⟨h.base,h.top,h.I,λr row hr=>?_⟩
 obtain⟨ao,g1,g2,g3,g4,g5,g6,gV,g7⟩:=h.R r row hr
 obtain⟨s1,s2,s3,s4⟩:=u6 ks ao
 have bd:=Ec r row hr
 refine⟨ao.kill ks,?_,s1.trans g2,s2.trans g3,s3.trans g4,s4.trans g5,g6,gV,g7⟩
 simp only[Ctx.kill]
 rw[if_neg (λe=>by have:=hM r e;omega),g1];rfl
theorem wW.step{c0 c c':Ctx}(hM:∀k,cw k ks=true->M<=k)(Ec:∀r row,c0.R r=some row->r<M)(h:wW c0 w0 c w)(n:jK ks c w c' w'):wW c0 w0 c' w':=by
 have By:∀s x,cw s ks=true->c.R s=some x->¬c.V s->c0.X (c.ρ s)\/w0.heap.size<=c.ρ s:=λs x hs hx v'=>by
  rcases h.ob s x hx v' with⟨⟨y,hy⟩,_⟩|e'
  ·have:=Ec s y hy;have:=hM s hs;omega
  ·exact e'
 refine⟨(Zmg hM Ec h.cz).trans n.cz,⟨n.fr.os.trans h.fr.os,n.fr.tape.trans h.fr.tape,n.fr.output.trans h.fr.output,bL h.fr.size n.fr.size,λb hb hx=>?_⟩,λb hb=>?_,λr row hr hv=>?_,h.xb⟩
 ·have bd:b<w.heap.size:=bM hb h.fr.size
  refine(n.fr.heap b bd fun⟨r,x,hr,v,e⟩=>?_).trans (h.fr.heap b hb hx)
  rcases h.ob r x hr v with⟨⟨y,hy⟩,v',e'⟩|e'|e'
  ·exact hx (.inl ⟨r,y,hy,v',by rw[<-e',e]⟩)
  ·exact hx (.inr (by rw[<-e];exact e'))
  ·omega
 ·rcases n.fh b hb with h1|⟨s,x,hs,hx,v',e⟩|h1
  ·exact h.fh b h1
  ·rcases By s x hs hx v' with h1|h1
   ·exact .inr (.inl (by rw[<-e];exact h1))
   ·exact .inr (.inr (by omega))
  ·have:=h.fr.size;exact .inr (.inr (by omega))
 ·rcases n.ob r row hr hv with⟨⟨x,hx⟩,v',e⟩|⟨s,x,hs,hx,v',e⟩|e
  ·rcases h.ob r x hx v' with⟨h1,h2,e'⟩|e'|e'
   ·exact .inl ⟨h1,h2,e.trans e'⟩
   ·exact .inr (.inl (by rw[e];exact e'))
   ·exact .inr (.inr (by omega))
  ·rcases By s x hs hx v' with h1|h1
   ·exact .inr (.inl (by rw[e];exact h1))
   ·exact .inr (.inr (by omega))
  ·have:=h.fr.size;exact .inr (.inr (by omega))
def lU(n:Nat)(w:World)(ds:List Deferred):Prop:=∃bs:List Nat,bs.Nodup/\ds=bs.map (λb=>({target:=.collected b,args:= #[]}:Deferred))/\∀b∈bs,n<=b/\w.heap[b]?=some (.deferred (some []))
theorem lU.nil:lU n w []:=⟨[],List.nodup_nil,rfl,λb hb=>by simp at hb⟩
theorem lU.to(h:lU n w ds)(hf:∀b:Nat,w.heap[b]?=some (Obj.deferred (some []))->w'.heap[b]?=some (Obj.deferred (some []))):lU n w' ds:=by
 obtain⟨bs,h1,h2,h3⟩:=h
 exact⟨bs,h1,h2,λb hb=>⟨(h3 b hb).1,hf b (h3 b hb).2⟩⟩
theorem lU.step{c:Ctx}(h:lU n w ds)(hm:Mem c w)(hf:Fr (λb=>∃r x,c.R r=some x/\¬c.V r/\c.ρ r=b) w w'):lU n w' ds:=by
 refine h.to λb h2=>(hf.heap b (Array.getElem?_eq_some_iff.1 h2).1 fun⟨r,x,hr,hV,e⟩=>?_).trans h2
 rcases hm.row r x hr with h3|⟨_,arr,h3,_⟩
 ·exact hV h3.1
 ·rw[e,h2]at h3;cases h3
theorem lU.put(h:lU n w a.defers):lU n w (a.put dst v).defers:=by
 cases dst<;>exact h
structure fi(N M:Nat)(c0:Ctx)(w0:World)(c:Ctx)(w:World)(st:St)(a:Act):Prop where
 mem:Mem c w
 rows:∀r,c.R r=st.rows.getD r none
 env:∀t,Rep c w (look st.env t) (a.tmps.getD t undef)
 size:N<=a.tmps.size
 defers:lU w0.heap.size w a.defers
 fy:c0.base<=w0.heap.size
 gr:∀r row,c0.R r=some row->r<M
 reach:wW c0 w0 c w
theorem fi.base{c0:Ctx}{c:Ctx}(h:fi N M c0 w0 c w st a):c.base<=w.heap.size:=by
 rw[h.reach.cz.base];exact bL h.fy h.reach.fr.size
theorem JZ{c:Ctx}{env:List (Nat×D)}(f:Nat):Rep c w (cq env (.func f)) (a.eval (.func f)):=by
 simp only[cq,Act.eval]
 cases h:bN f YB with
 |false=>trivial
 |true=>exact⟨[],.inl ⟨lE h,rfl⟩,trivial⟩
theorem MS{c:Ctx}{env:List (Nat×D)}(h:∀t,Rep c w (look env t) (a.tmps.getD t undef))(x:Operand):Rep c w (cq env x) (a.eval x):=by
 cases x with
 |tmp t=>exact h t
 |const v=>
  simp only[cq,Act.eval]
  cases hv:FO v with
  |none=>trivial
  |some d=>exact MQ hv c w
 |global g=>trivial
 |func f=>exact JZ f
def rU(env:List (Nat×D))(dst:Option Tmp)(d:D):List (Nat×D):=match dst with|none=>env|some t=>(t,d)::env
theorem AJ(env:List (Nat×D))(t:Nat)(d:D)(s:Nat):look ((t,d)::env) s=if t=s then d else look env s:=by
 simp only[look]
 cases hb:Nat.beq t s with
 |true=>rw[if_pos (bE hb)]
 |false=>rw[if_neg (λe=>by rw[e]at hb;simp at hb)]
theorem Zc9{c:Ctx}{env:List (Nat×D)}(hN:N<=a.tmps.size)(hd:∀t,dst=some t->t<N)(h:∀t,Rep c w (look env t) (a.tmps.getD t undef))(hv:Rep c w d v)(t:Nat):
 Rep c w (look (rU env dst d) t) ((a.put dst v).tmps.getD t undef):=by
 cases dst with
 |none=>exact h t
 |some s=>
  have hs:=hd s rfl
  simp only[rU,Act.put,AJ]
  by_cases e:s=t
  ·subst e
   rw[if_pos rfl]
   have bd:s<a.tmps.size:=bM hs hN
   simpa[aY,bd]using hv
  ·rw[if_neg e]
   have:=h t
   simpa[Array.getElem?_setIfInBounds_ne e]using this
def jt:List Operand->Nat
 |[]=>1
 |.tmp t::l=>t+1+jt l
 |_::l=>jt l
theorem V0:∀{l:List Operand},0<jt l
 |[]=>by simp[jt]
 |x::l=>by cases x<;>simp only[jt]<;>have:=V0 (l:=l)<;>omega
theorem Sm{t:Nat}:∀{l:List Operand},.tmp t∈l->t<jt l
 |x ::l,h=>by
  rcases List.mem_cons.1 h with e|e
  ·subst e;simp only[jt];omega
  ·have:=Sm e
   cases x<;>simp only[jt]<;>omega
def FU(B:Nat):List iD->List (Nat×D)
 |[]=>[]
 |x::l=>(B,x.d)::FU (B+1) l
theorem MT{env:List (Nat×D)}:∀{cs:List iD} {B t:Nat},look (FU B cs++env) t=if h:B<=t/\t-B<cs.length then(cs[t-B]'h.2).d else look env t
 |[],B,t=>by simp[FU]
 |x ::l,B,t=>by
  simp only[FU,List.cons_append,AJ,MT (cs:=l) (B:=B+1)]
  by_cases e:B=t
  ·subst e;simp
  ·rw[if_neg e]
   by_cases h:B+1<=t/\t-(B+1)<l.length
   ·rw[dif_pos h,dif_pos (by simp;omega)]
    have:t-B=(t-(B+1))+1:=by omega
    simp only[this,List.getElem_cons_succ]
   ·rw[dif_neg h,dif_neg (by simp;omega)]
def Ed(args:Array Operand)(n:Nat):Array Operand:=(args.toList++(bO (jt args.toList) n).map Operand.tmp).toArray
def tv(a:Act)(B:Nat)(us:List Value):Act:={tmps:=((List.range B).map (λi=>a.tmps.getD i undef)++us).toArray,defers:=[]}
theorem Zkv{t:Nat}(h:t<B):(tv a B us).tmps.getD t undef=a.tmps.getD t undef:=by
 simp[tv,aY,h,List.getElem_append]
 omega
theorem Zl6:(tv a B us).tmps.getD (B+i) undef=us.getD i undef:=by
 simp only[tv,Array.getD_eq_getD_getElem?,bH]
 rw[bJ (by simp)]
 simp[aV]
theorem oE.length{c:Ctx}{w:World}:∀{cs:List iD} {us:List Value},oE c w cs us->us.length=cs.length
 |[],[],_=>rfl
 |_::_,_::_,h=>by simp[oE.length h.2]
 |[],_::_,h=>h.elim
 |_::_,[],h=>h.elim
theorem oE.get{c:Ctx}{w:World}:∀{cs:List iD} {us:List Value},oE c w cs us->∀i (h:i<cs.length),Sn c w (cs[i]'h) (us.getD i undef)
 |[],[],_,i,h=>by simp at h
 |_::_,_::_,h,0,_=>by simpa using h.1
 |_::_,_::_,h,i+1,hi=>by simpa using oE.get h.2 i (by simpa using hi)
 |[],_::_,h,_,_=>h.elim
 |_::_,[],h,_,_=>h.elim
theorem Zbf{env:List (Nat×D)}:(Ed args cs.length).toList.map (cq (FU (jt args.toList) cs++env))=args.toList.map (cq env)++cs.map iD.d:=by
 simp only[Ed,bP]
 congr 1
 ·refine bQ λx hx=>?_
  cases x with
  |tmp t=>simp only[cq,MT];rw[dif_neg (by have:=Sm hx;omega)]
  |_=>rfl
 ·refine bR (by simp) λi h1 h2=>?_
  have:i<cs.length:=by simpa using h2
  simp only[bS,bT,cq,MT]
  rw[dif_pos (by omega)]
  congr 1
  simp
theorem Z1l:(Ed args us.length).toList.map (tv a (jt args.toList) us).eval=args.toList.map a.eval++us:=by
 simp only[Ed,bP]
 congr 1
 ·refine bQ λx hx=>?_
  cases x with
  |tmp t=>exact Zkv (Sm hx)
  |_=>rfl
 ·refine bR (by simp) λi h1 h2=>?_
  have:i<us.length:=h2
  simp only[bS,bT,Act.eval,Nat.one_mul]
  rw[Zl6]
  simp[aV,this]
theorem Bz{c:Ctx}{env:List (Nat×D)}(hl:∀x∈args.toList,Rep c w (cq env x) (a.eval x))(hc:oE c w cs us):∀x∈(Ed args cs.length).toList,Rep c w (cq (FU (jt args.toList) cs++env) x) ((tv a (jt args.toList) us).eval x):=by
 intro x hx
 simp only[Ed,List.mem_append,List.mem_map]at hx
 rcases hx with hx|⟨t,ht,rfl⟩
 ·have:=hl x hx
  cases x with
  |tmp t=>
   have bd:=Sm hx
   simp only[cq,MT,Act.eval]
   rw[dif_neg (by omega),Zkv bd]
   exact this
  |_=>exact this
 ·rw[List.mem_range'_1]at ht
  obtain⟨i,hi,rfl⟩:∃i:Nat,i<cs.length/\t=jt args.toList+i:=⟨t-jt args.toList,Nat.sub_lt_left_of_lt_add ht.1 ht.2,(Nat.add_sub_cancel' ht.1).symm⟩
  have h2:=oE.get hc i hi
  have h3:look (FU (jt args.toList) cs++env) (jt args.toList+i)=(cs[i]'hi).d:=by
   rw[MT,dif_pos ⟨by omega,by omega⟩]
   congr 1
   simp
  simp only[cq,Act.eval]
  rw[h3,Zl6]
  exact Rep.J5 (VRep.Ee (V1.1 h2))
theorem xay{f:FuncId}(he:∀args w,(callFunc f args).run P w=.ok (.enter f args) w){t:Tmp}{guard:Option (Nat×Bool)}
 (ht:a.eval (.tmp t)=.func (.func f) #[] us.toArray) {K:Act->World->Prop} {Q:Exit->Act->World->Prop}
 (h:(⟨some 0,.call ⟨.value (.func f),Ed args us.length,dj⟩,type,pos,after,guard⟩:Oper).nd P (tv a (jt args.toList) us) w (λa' w'=>K (a.put dst (a'.tmps.getD 0 undef)) w') (λ_ _ _=>False)):
 (⟨dst,.call ⟨.value (.tmp t),args,dj⟩,type,pos,after,guard⟩:Oper).nd P a w K Q:=by
 have hv:=Z1l (a:=a) (args:=args) (us:=us)
 have r1:(execOp (tv a (jt args.toList) us).eval (⟨some 0,.call ⟨.value (.func f),Ed args us.length,dj⟩,type,pos,after,guard⟩:Oper)).run P w=.ok (.enter f (args.toList.map a.eval++us).toArray) w:=by
  simp only[execOp,resolve,Act.eval,Deferred.ofValue,Sem.run_bind,Sem.run_pure,Result.andThen_ok,invoke,bU,Array.append_empty]
  rw[he,<-hv,<-bV,bW]
 have r2:(execOp a.eval (⟨dst,.call ⟨.value (.tmp t),args,dj⟩,type,pos,after,guard⟩:Oper)).run P w=.ok (.enter f (args.toList.map a.eval++us).toArray) w:=by
  simp only[execOp,resolve,ht,Deferred.ofValue,Sem.run_bind,Sem.run_pure,Result.andThen_ok,invoke,bU]
  rw[he]
  congr 2
  rw[<-List.append_toArray,<-bV,bW]
 have bd:0<(tv a (jt args.toList) us).tmps.size:=by have:=V0 (l:=args.toList);simp[tv];omega
 unfold Oper.nd at h⊢
 rw[r1]at h
 rw[r2]
 refine Calls.mono h λe w' ⟨v,he,hp⟩=>⟨v,he,?_⟩
 have:((tv a (jt args.toList) us).put (some 0) v).tmps.getD 0 undef=v:=by
  simp only[Act.put]
  simp[aY,bd]
 simp only[this]at hp
 exact hp
theorem xG{t:Tmp}{guard:Option (Nat×Bool)}{l:Nat}{rec:Loop}
 (ht:a.eval (.tmp t)=.func (.yield l) #[] #[]) (hl:w.heap[l]?=some (.loop rec)) {K:Act->World->Prop} {Q:Exit->Act->World->Prop} (hs:(args.toList.map a.eval).length=rec.params.size)
 (h:RoundIn Fence.wide 0 P l rec.fn ((rec.params.zip (args.toList.map a.eval).toArray).foldl (λtmps (t,a)=>tmps.setIfInBounds t a) rec.tmps) rec.assign rec.body w λe w'=>∃v,e=.returned v/\K (a.put dst v) w'):
 (⟨dst,.call ⟨.value (.tmp t),args,dj⟩,type,pos,after,guard⟩:Oper).nd P a w K Q:=by
 have r2:(execOp a.eval (⟨dst,.call ⟨.value (.tmp t),args,dj⟩,type,pos,after,guard⟩:Oper)).run P w=.ok (.round l rec.fn ((rec.params.zip (args.toList.map a.eval).toArray).foldl (λtmps (t,a)=>tmps.setIfInBounds t a) rec.tmps) rec.assign rec.body) w:=by
  simp only[execOp,resolve,ht,Deferred.ofValue,Sem.run_bind,Sem.run_pure,Result.andThen_ok,invoke,bU]
  have hy:=run_yield (P:=P) (args:=(args.toList.map a.eval).toArray) hl (by simpa using hs)
  rw[<-hy,<-bV,bW]
 unfold Oper.nd
 rw[r2]
 exact h
section
variable {P:Program} {G:List ba} {M:Nat} {dst:Option Tmp} {f:FuncId} {t:Tmp} {args:Array Operand} {dj:Array TypeId} {type:TypeId} {pos':String} {after:Array Edge} {guard:Option (Nat×Bool)} {env:List (Nat×D)} {cs:List iD} {R:Rows}
theorem MU{x:ba}(dx:bj P x)(hf:x.f=f)(hy:f<YB)(ht:look env t=.gl f cs)
 (h:BA P ⟨some 0,.call ⟨.value (.func f),Ed args cs.length,dj⟩,type,pos',after,guard⟩ (cq (FU (jt args.toList) cs++env)) R ks val R'):BA P ⟨dst,.call ⟨.value (.tmp t),args,dj⟩,type,pos',after,guard⟩ (cq env) R ks val R':=by
 intro c w a hm hb hR ei K Q hK
 have h1:=ei (.tmp t) (by simp[Op.operands,Call.operands])
 simp only[cq,ht]at h1
 obtain⟨us,⟨_,hv⟩|⟨gx,_⟩,hc⟩:=h1
 rotate_left
 ·exact absurd hy (Nat.not_lt.2 gx)
 have hl:us.length=cs.length:=hc.length
 refine xay (λaz w=>by rw[<-hf];exact dx.enters (by rw[hf];exact hy) az w) hv ?_
 rw[hl]
 refine h c w _ hm hb hR (λy hy=>?_) _ _ λv w' c' hn jY hr=>?_
 ·have fv:∀x∈args.toList,Rep c w (cq env x) (a.eval x):=λy hy=>ei y (by simp[Op.operands,Call.operands];exact .inr (by simpa using hy))
  simp only[Op.operands,Call.operands]at hy
  rcases Array.mem_append.1 hy with hy|hy
  ·simp at hy;subst hy;exact JZ _
  ·exact Bz fv hc y (by simpa using hy)
 ·have bd:0<(tv a (jt args.toList) us).tmps.size:=by have:=V0 (l:=args.toList);simp[tv];omega
  have:((tv a (jt args.toList) us).put (some 0) v).tmps.getD 0 undef=v:=by
   simp only[Act.put]
   simp[aY,bd]
  show K (a.put dst (((tv a (jt args.toList) us).put (some 0) v).tmps.getD 0 undef)) w'
  rw[this]
  exact hK v w' c' hn jY hr
theorem Ztb{K:D->Rows->Prop}(hG:jz P G)(lK:oU G f=none)(ht:look env t=.gl f cs)(h:J6 G f (args.toList.map (cq env)++cs.map iD.d) R K):∃val R',K val R'/\BA P ⟨dst,.call ⟨.value (.tmp t),args,dj⟩,type,pos',after,guard⟩ (cq env) R [] val R':=by
 rw[<-Zbf]at h
 obtain⟨val,R',x,h1,h2,h3,_⟩:=V2 (dst:=some 0) (dj:=dj) (type:=type) (pos':=pos') (after:=after) (guard:=guard) hG lK h
 obtain⟨dx,hf⟩:=FV hG h2
 have u7:x.gone=none:=by simpa[oU,h2]using lK
 exact⟨val,R',h1,MU dx hf (by rw[<-hf];exact dx.real u7) ht h3.toK⟩
theorem qb{K:List Nat->D->Rows->Prop}(hG:jz P G)(rS:(bN f YB||Nat.beq args.size 1)=true)(lK:oU G f=some k)(ht:look env t=.gl f cs)(h:HP G M f k (args.toList.map (cq env)++cs.map iD.d) R K):∃ks val R',K ks val R'/\(∀j,cw j ks=true->M<=j)/\BA P ⟨dst,.call ⟨.value (.tmp t),args,dj⟩,type,pos',after,guard⟩ (cq env) R ks val R':=by
 rw[<-Zbf]at h
 by_cases hy:f<YB
 ·obtain⟨ks,val,R',x,h1,h2,h3,h4,h5⟩:=Zqi hG hy (dst:=some 0) (dj:=dj) (type:=type) (pos':=pos') (after:=after) (guard:=guard) lK h
  obtain⟨dx,hf⟩:=FV hG h2
  exact⟨ks,val,R',h1,h4,MU dx hf hy ht h5⟩
 ·obtain⟨ks,val,R',x,h1,h2,h3,h4,h5⟩:=V3 hG lK h
  refine⟨ks,val,R',h1,h4,λc w a hm hb hR ei K' Q pW=>?_⟩
  have h1:=ei (.tmp t) (by simp[Op.operands,Call.operands])
  simp only[cq,ht]at h1
  obtain⟨us,⟨bd,_⟩|⟨gx,l,rec,hv,hI,hl,mN⟩,hc⟩:=h1
  ·exact absurd bd hy
  have fv:∀x∈args.toList,Rep c w (cq env x) (a.eval x):=λy hy=>ei y (by simp[Op.operands,Call.operands];exact .inr (by simpa using hy))
  have hlen:us.length=cs.length:=hc.length
  have iY:(args.toList.map a.eval).length=1:=by
   rcases Bool.or_eq_true_iff.1 rS with e|e
   ·exact absurd (lE e) hy
   ·simpa using bE e
  have fu:(args.toList.map a.eval).length=rec.params.size:=by
   obtain⟨_,_,y,_,hp,_,_,_,h1,_⟩:=mN
   rw[hp,h1];exact iY
  exact xG hv hl fu ((h5 c w (tv a (jt args.toList) us).eval hm hb hR (λy hy=>Bz fv hc y hy) (λv w'=>K' (a.put dst v) w') λv w' c'=>pW v w' c').2 (Nat.le_of_not_lt hy) l rec (args.toList.map a.eval) us (by rw[<-hlen,Z1l]) hI hl mN iY)
end
def pB(P:Program)(G:List ba)(M:Nat)(o:Oper)(ev:Operand->D)(R:Rows)(ks:List Nat)(val:D)(R':Rows):Prop:=
 if rV G o.op=true then(∀k,cw k ks=true->M<=k)/\BA P o ev R ks val R' else ks=[]/\pF P o ev R val R'
theorem pB.toK(h:pB P G M o ev R ks val R'):(∀k,cw k ks=true->M<=k)/\BA P o ev R ks val R':=by
 unfold pB at h
 split at h
 ·exact h
 ·obtain⟨rfl,h⟩:=h
  exact⟨λk hk=>by simp[cw]at hk,h.toW.toK⟩
theorem AL(hw:rV G o.op=false)(h:pF P o ev R val R'):pB P G M o ev R [] val R':=by
 unfold pB;rw[hw];exact⟨rfl,h⟩
theorem BB(hw:rV G o.op=true)(hk:∀k,cw k ks=true->M<=k)(h:BA P o ev R ks val R'):pB P G M o ev R ks val R':=by
 unfold pB;rw[if_pos hw];exact⟨hk,h⟩
def nu(P:Program)(G:List ba)(M:Nat)(ops:Array Oper)(o:Oper)(env:List (Nat×D))(R:Rows)(ks:List Nat)(val:D)(R':Rows):Prop:=
 match o.guard with
 |none=>pB P G M o (cq env) R ks val R'
 |some (j,want)=>∃g,(ops[j]?).bind (·.dst)=some g/\((∃b,look env g=.bool b/\(if b=want then pB P G M o (cq env) R ks val R' else ks=[]/\val=.dw []/\R'=R))\/(look env g=.dw []/\ks=[]/\val=.dw []/\R'=R))
theorem oF{K:St->Prop}(h:st.put N dst d R K):(∀t,dst=some t->t<N)/\K ⟨rU st.env dst d,R⟩:=by
 cases dst with
 |none=>exact⟨λt h=>(by cases h),h⟩
 |some t=>
  simp only[St.put,dd]at h
  refine⟨λs hs=>?_,h.2⟩
  cases hs
  exact lE h.1
theorem zb(d:D):d.kill []=d:=by
 cases d with
 |agg cs=>show D.agg (D.kj [] cs)=_;rw[V4]
 |gl f cs=>exact V5 (.gl f cs)
 |_=>rfl
theorem Zkh:∀{ds:List D},D.pH [] ds=ds
 |[]=>rfl
 |d::l=>by simp[D.pH,zb,Zkh (ds:=l)]
theorem yb(d:D):d.gp []=d:=by
 cases d with
 |dw ds=>show D.dw (D.pH [] ds)=_;rw[Zkh]
 |agg cs=>exact zb (.agg cs)
 |gl f cs=>exact V5 (.gl f cs)
 |_=>rfl
theorem oD{env:List (Nat×D)}{t:Nat}:look (rT [] env) t=look env t:=by rw[BC,yb]
theorem Zpw(hT:ji P T)(hG:jz P G){K:St->Prop}(h:lL T G N M o st K):
 ∃ks val R' iG,(∀t,look iG t=look (rT ks st.env) t)/\(∀t,o.dst=some t->t<N)/\K ⟨rU iG o.dst val,R'⟩/\pB P G M o (cq st.env) st.rows ks val R':=by
 have plain:(rV G o.op=FW o.op)->(ic T o.op (cq st.env) st.rows λd R=>st.put N o.dst d R K)->∃ks val R' iG,(∀t,look iG t=look (rT ks st.env) t)/\(∀t,o.dst=some t->t<N)/\K ⟨rU iG o.dst val,R'⟩/\pB P G M o (cq st.env) st.rows ks val R':=by
  intro hw h
  obtain⟨val,R',hK,hO⟩:=MV hT o _ _ _ h
  obtain⟨h1,h2⟩:=oF hK
  refine⟨[],_,_,st.env,λt=>oD.symm,h1,h2,?_⟩
  split at hO
  ·rename_i hs
   exact BB (hw.trans hs) (λk hk=>by simp[cw]at hk) hO.toK
  ·rename_i hs
   exact AL (by rw[hw];simpa using hs) hO
 unfold lL at h
 split at h
 ·rename_i cc x y ho
  split at h
  ·rename_i b hb
   have hw:rV G o.op=false:=by rw[ho];rfl
   have go:∀z,z∈o.op.operands->(∀c w (a:Act),Rep c w (cq st.env cc) (a.eval cc)->(execOp a.eval o).run P w=.ok (.value (a.eval z)) w)->(cq st.env z).force (λd=>st.put N o.dst d st.rows K)->
    ∃ks val R' iG,(∀t,look iG t=look (rT ks st.env) t)/\(∀t,o.dst=some t->t<N)/\K ⟨rU iG o.dst val,R'⟩/\pB P G M o (cq st.env) st.rows ks val R':=by
    intro z hz il h
    rw[D.c8]at h
    obtain⟨h1,h2⟩:=oF h
    exact⟨[],_,_,st.env,λt=>oD.symm,h1,h2,AL hw (mC λc w a hm hA ei=>⟨_,il c w a (ei cc (by rw[ho];simp[Op.operands])),ei z hz⟩)⟩
   cases b with
   |true=>
    refine go x (by rw[ho];simp[Op.operands]) (λc w a hc=>?_) h
    rw[hb]at hc
    simp only[execOp,ho,Rep.bool.1 hc,asBool,Sem.run_bind,Sem.run_pure,Result.andThen_ok,if_true]
   |false=>
    refine go y (by rw[ho];simp[Op.operands]) (λc w a hc=>?_) h
    rw[hb]at hc
    simp only[execOp,ho,Rep.bool.1 hc,asBool,Sem.run_bind,Sem.run_pure,Result.andThen_ok,aA,if_false]
  ·exact h.elim
 ·rename_i f args dj ho
  obtain⟨dst,op,type,pos,after,guard⟩:=o
  simp only at ho
  subst ho
  split at h
  ·rename_i lK
   split at h
   rotate_left
   ·rename_i Ef
    obtain⟨ks,val,R',x,hK,hx,hM,hO⟩:=yR (dst:=dst) (type:=type) (pos':=pos) (after:=after) (guard:=guard) (dj:=dj) hG lK h
    rw[HQ]at hK
    obtain⟨h1,h2⟩:=oF hK
    refine⟨ks,_,_,_,λt=>rfl,h1,h2,BB ?_ hM hO⟩
    have Ef:x.oV=true:=by simpa[BD,hx]using Ef
    cases pC:x.refs with
    |nil=>simp only[rV,hx,pC,Ef]
    |cons b bs=>simp only[rV,hx,pC]
   rename_i Ef
   have HR:∀x,oG G f=some x->x.oV=false:=λx hx=>by simpa[BD,hx]using Ef
   obtain⟨val,R',x,hK,hx,hO,hN⟩:=V2 (dst:=dst) (type:=type) (pos':=pos) (after:=after) (guard:=guard) (dj:=dj) hG lK h
   obtain⟨h1,h2⟩:=oF hK
   refine⟨[],_,_,st.env,λt=>oD.symm,h1,h2,?_⟩
   cases hr:x.refs with
   |nil=>exact AL (by simp only[rV,hx,hr,HR x hx]) (hN hr)
   |cons b bs=>exact BB (by simp only[rV,hx,hr]) (λk hk=>by simp[cw]at hk) hO.toK
  ·rename_i k lK
   obtain⟨hy,h⟩:=dd.1 h
   obtain⟨ks,val,R',x,hK,hx,hr,hM,hO⟩:=Zqi hG (lE hy) (dst:=dst) (type:=type) (pos':=pos) (after:=after) (guard:=guard) (dj:=dj) lK h
   rw[HQ]at hK
   obtain⟨h1,h2⟩:=oF hK
   refine⟨ks,_,_,_,λt=>rfl,h1,h2,BB ?_ hM hO⟩
   cases pC:x.refs with
   |nil=>exact(hr pC).elim
   |cons b bs=>simp only[rV,hx,pC]
 ·rename_i t args dj ho
  obtain⟨dst,op,type,pos,after,guard⟩:=o
  simp only at ho
  subst ho
  split at h
  ·rename_i f cs ht
   split at h
   ·rename_i lK
    split at h
    ·obtain⟨val,R',hK,hO⟩:=Ztb (dst:=dst) (type:=type) (pos':=pos) (after:=after) (guard:=guard) (dj:=dj) hG lK ht h
     obtain⟨h1,h2⟩:=oF hK
     exact⟨[],_,_,st.env,λt=>oD.symm,h1,h2,BB rfl (λk hk=>by simp[cw]at hk) hO⟩
    ·exact h.elim
   ·rename_i k lK
    obtain⟨rS,h⟩:=dd.1 h
    obtain⟨ks,val,R',hK,hM,hO⟩:=qb (dst:=dst) (type:=type) (pos':=pos) (after:=after) (guard:=guard) (dj:=dj) hG rS lK ht h
    rw[HQ]at hK
    obtain⟨h1,h2⟩:=oF hK
    exact⟨ks,_,_,_,λt=>rfl,h1,h2,BB rfl hM hO⟩
  ·exact h.elim
 ·rename_i args dj ho
  obtain⟨dst,op,type,pos,after,guard⟩:=o
  simp only at ho
  subst ho
  split at h
  ·rename_i x y t tx hx ht
   have fv:args= #[x,y]:=by rw[<-bW (xs:=args),hx]
   have ua:dj= #[t,tx]:=by rw[<-bW (xs:=dj),ht]
   subst fv;subst ua
   obtain⟨ks,R',hK,hM,hr⟩:=Zou (ty:=type) hT h
   rw[HQ]at hK
   obtain⟨h1,h2⟩:=oF hK
   refine⟨ks,_,_,_,λt=>rfl,h1,h2,BB rfl hM λc w a hm hb hR ei K' Q pW=>?_⟩
   obtain⟨v',w',c',il,hn,jY,hv⟩:=hr c w _ _ hm hb hR (ei x (by simp[Op.operands,Call.operands])) (ei y (by simp[Op.operands,Call.operands]))
   refine FX ?_ (pW v' w' c' hn jY hv)
   simp only[execOp,resolve,Sem.run_bind,Sem.run_pure,Result.andThen_ok,invoke,builtin]
   have:(#[x,y]:Array Operand).map a.eval= #[a.eval x,a.eval y]:=by simp
   rw[this,il];rfl
  ·exact h.elim
 ·rename_i args dj ho
  obtain⟨dst,op,type,pos,after,guard⟩:=o
  simp only at ho
  subst ho
  split at h
  ·rename_i x y t tx hx ht
   have fv:args= #[x,y]:=by rw[<-bW (xs:=args),hx]
   have ua:dj= #[t,tx]:=by rw[<-bW (xs:=dj),ht]
   subst fv;subst ua
   obtain⟨val,R',hK,hr⟩:=za (ty:=type) hT h
   obtain⟨h1,h2⟩:=oF hK
   refine⟨[],_,_,st.env,λt=>oD.symm,h1,h2,BB rfl (λk hk=>by simp[cw]at hk) (Eg.toK λc w a hm hb hR ei K' Q pW=>?_)⟩
   obtain⟨v',w',c',il,hn,jY,hv⟩:=hr c w _ _ hm hR (ei x (by simp[Op.operands,Call.operands])) (ei y (by simp[Op.operands,Call.operands]))
   refine FX ?_ (pW v' w' c' hn jY hv)
   simp only[execOp,resolve,Sem.run_bind,Sem.run_pure,Result.andThen_ok,invoke,builtin]
   have:(#[x,y]:Array Operand).map a.eval= #[a.eval x,a.eval y]:=by simp
   rw[this,il];rfl
  ·exact h.elim
 ·rename_i args dj ho
  split at h
  ·rename_i x y hx
   obtain⟨val,hK,hr⟩:=Zpa h
   obtain⟨h1,h2⟩:=oF hK
   refine⟨[],_,_,st.env,λt=>oD.symm,h1,h2,AL (by rw[ho];rfl) (mC λc w a hm hA ei=>?_)⟩
   have fv:args= #[x,y]:=by rw[<-bW (xs:=args),hx]
   subst fv
   obtain⟨u,hu,hv⟩:=hr P c w _ _ (ei x (by rw[ho];simp[Op.operands,Call.operands])) (ei y (by rw[ho];simp[Op.operands,Call.operands]))
   refine⟨u,?_,hv⟩
   simp only[execOp,ho,resolve,Sem.run_bind,Sem.run_pure,Result.andThen_ok,invoke,builtin]
   have:(#[x,y]:Array Operand).map a.eval= #[a.eval x,a.eval y]:=by simp
   rw[this]
   have hu:=hu.1 rfl dj o.type
   rw[hu];rfl
  ·exact h.elim
 ·rename_i args dj ho
  split at h
  ·rename_i x y hx
   obtain⟨val,hK,hr⟩:=Zpa h
   obtain⟨h1,h2⟩:=oF hK
   refine⟨[],_,_,st.env,λt=>oD.symm,h1,h2,AL (by rw[ho];rfl) (mC λc w a hm hA ei=>?_)⟩
   have fv:args= #[x,y]:=by rw[<-bW (xs:=args),hx]
   subst fv
   obtain⟨u,hu,hv⟩:=hr P c w _ _ (ei x (by rw[ho];simp[Op.operands,Call.operands])) (ei y (by rw[ho];simp[Op.operands,Call.operands]))
   refine⟨u,?_,hv⟩
   simp only[execOp,ho,resolve,Sem.run_bind,Sem.run_pure,Result.andThen_ok,invoke,builtin]
   have:(#[x,y]:Array Operand).map a.eval= #[a.eval x,a.eval y]:=by simp
   rw[this]
   have hu:=hu.2 rfl dj o.type
   rw[hu];rfl
  ·exact h.elim
 ·rename_i s d x ho
  split at h
  ·rename_i e _ _ _ _ _ _ hs
   obtain⟨val,hK,hr⟩:=qG hT hs h
   obtain⟨h1,h2⟩:=oF hK
   refine⟨[],_,_,st.env,λt=>oD.symm,h1,h2,AL (by rw[ho];rfl) (mC λc w a hm hA ei=>?_)⟩
   obtain⟨u,hu,hv⟩:=hr c w _ hm hA (ei x (by rw[ho];simp[Op.operands]))
   refine⟨u,?_,hv⟩
   simp only[execOp,ho]
   rw[Sem.run_bind,hu];rfl
  ·rw[<-ho]at h
   exact plain (by rw[ho];rfl) h
 ·rename_i op t x y ty ho
  split at h
  ·rename_i s es fr hx hy
   obtain⟨hK,hr⟩:=vF hT h
   obtain⟨h1,h2⟩:=oF hK
   refine⟨[],_,_,st.env,λt=>oD.symm,h1,h2,AL (by rw[ho];rfl) (mC λc w a hm hA ei=>?_)⟩
   have q1:=ei x (by rw[ho];simp[Op.operands])
   have q2:=ei y (by rw[ho];simp[Op.operands])
   rw[hx]at q1;rw[hy]at q2
   obtain⟨u,hu,hv⟩:=hr s fr c w _ _ q1 q2
   refine⟨u,?_,hv⟩
   simp only[execOp,ho]
   rw[Sem.run_bind,hu x y];rfl
  ·rename_i r hx hy
   split at h
   ·rename_i bx jS j4 es hR
    obtain⟨hK,hr⟩:=ya hT hR h
    obtain⟨h1,h2⟩:=oF hK
    refine⟨[],_,_,st.env,λt=>oD.symm,h1,h2,AL (by rw[ho];rfl) (mC λc w a hm hA ei=>?_)⟩
    have q1:=ei x (by rw[ho];simp[Op.operands])
    have q2:=ei y (by rw[ho];simp[Op.operands])
    rw[hx]at q1;rw[hy]at q2
    obtain⟨u,hu,hv⟩:=hr c w _ _ hm hA q1 q2
    refine⟨u,?_,hv⟩
    simp only[execOp,ho]
    rw[Sem.run_bind,hu x y];rfl
   ·exact h.elim
  ·rw[<-ho]at h
   exact plain (by rw[ho];rfl) h
 ·rename_i op n1 n2 n9 n3 n4 n5 n6 n7 n8
  refine plain ?_ h
  unfold rV
  split
  ·rename_i rC;rw[rC];rfl
  ·rename_i rC;exact(n2 _ _ _ rC).elim
  ·rename_i rC;exact(n9 _ _ _ rC).elim
  ·rename_i rC;exact(n3 _ _ rC).elim
  ·rename_i rC;exact(n4 _ _ rC).elim
  ·rename_i m1 m2 m5 m3 m4
   cases rC:o.op<;>first|rfl|exact(m1 _ _ _ rC).elim
theorem So(h:look st.env g=.bool b)(t:Nat):look (st.jT (.tmp g) b).env t=look st.env t:=by
 simp only[St.jT,AJ]
 split
 ·rename_i e;subst e;exact h.symm
 ·rfl
theorem Zqt{env mb:List (Nat×D)}(h:∀t,look mb t=look env t):cq mb=cq env:=by
 funext x;cases x<;>first|exact h _|rfl
theorem VJ(hT:ji P T)(hG:jz P G){l:List Oper}{K:St->Prop}(h:lR T G N M ops (o::l) st K):
 ∃ks val R' iG,(∀t,look iG t=look (rT ks st.env) t)/\(∀t,o.dst=some t->t<N)/\nu P G M ops o st.env st.rows ks val R'/\lR T G N M ops l ⟨rU iG o.dst val,R'⟩ K:=by
 simp only[lR]at h
 split at h
 ·rename_i hg
  obtain⟨ks,val,R',iG,h0,h1,h2,h3⟩:=Zpw hT hG h
  exact⟨ks,val,R',iG,h0,h1,by unfold nu;rw[hg];exact h3,h2⟩
 ·rename_i j want hg
  split at h
  ·rename_i g hd
   split at h
   ·rename_i b hb
    have yes:∀b',b'=b->lL T G N M o (st.jT (.tmp g) b') (λst=>lR T G N M ops l st K)->b=want->∃ks val R' iG,(∀t,look iG t=look (rT ks st.env) t)/\(∀t,o.dst=some t->t<N)/\nu P G M ops o st.env st.rows ks val R'/\lR T G N M ops l ⟨rU iG o.dst val,R'⟩ K:=by
     intro b' e hh hw
     subst e
     obtain⟨ks,val,R',iG,h0,h1,h2,h3⟩:=Zpw hT hG hh
     rw[Zqt (So hb)]at h3
     refine⟨ks,val,R',iG,λt=>by rw[h0,BC,BC,So hb],h1,?_,h2⟩
     unfold nu;rw[hg]
     exact⟨g,hd,.inl ⟨_,hb,by rw[if_pos hw];exact h3⟩⟩
    have no:∀b',b'=b->(st.jT (.tmp g) b').put N o.dst (.dw []) st.rows (λst=>lR T G N M ops l st K)->b≠want->∃ks val R' iG,(∀t,look iG t=look (rT ks st.env) t)/\(∀t,o.dst=some t->t<N)/\nu P G M ops o st.env st.rows ks val R'/\lR T G N M ops l ⟨rU iG o.dst val,R'⟩ K:=by
     intro b' e hh hw
     subst e
     obtain⟨h1,h2⟩:=oF hh
     refine⟨[],_,_,_,λt=>by rw[oD,So hb],h1,?_,h2⟩
     unfold nu;rw[hg]
     exact⟨g,hd,.inl ⟨_,hb,by rw[if_neg hw];exact⟨rfl,rfl,rfl⟩⟩⟩
    cases b<;>cases want<;>simp only[w7]at h
    ·exact yes _ rfl h rfl
    ·exact no _ rfl h (by simp)
    ·exact no _ rfl h (by simp)
    ·exact yes _ rfl h rfl
   ·rename_i hb
    obtain⟨h1,h2⟩:=oF h
    refine⟨[],_,_,st.env,λt=>oD.symm,h1,?_,h2⟩
    unfold nu;rw[hg]
    exact⟨g,hd,.inr ⟨hb,rfl,rfl,rfl⟩⟩
   ·exact h.elim
  ·exact h.elim
theorem Sj{c:Ctx}(hg:o.guard=some (j,want))(hd:(ops[j]?).bind (·.dst)=some g)(h:Rep c w (.dw []) (a.tmps.getD g undef)):
 Region.wanted o (yielded ops a.tmps)=false:=by
 obtain⟨vs,hv,BE⟩:=h
 have hy:yielded ops a.tmps j=none:=by
  simp only[yielded,hd,aW]
  cases hx:a.tmps[g]? with
  |none=>rfl
  |some v=>
   have:a.tmps.getD g undef=v:=by simp[hx]
   rw[this]at hv
   rw[hv]
 unfold Region.wanted
 rw[hg]
 simp only[hy]
 rfl
theorem Si(c:Ctx)(w:World):Rep c w (.dw []) undef:=⟨[],rfl,trivial⟩
theorem Sk{c:Ctx}(hg:o.guard=some (j,want))(hd:(ops[j]?).bind (·.dst)=some g)(h:Rep c w (.bool b) (a.tmps.getD g undef)):
 Region.wanted o (yielded ops a.tmps)=decide (b=want):=by
 have hv:=Rep.bool.1 h
 have ht:a.tmps[g]?=some (.bool b):=by
  cases hx:a.tmps[g]? with
  |none=>simp[hx,undef]at hv
  |some v=>simp[hx]at hv;rw[hv]
 unfold Region.wanted
 simp only[hg,yielded,hd,aW,ht]
 cases b<;>cases want<;>rfl
def wpOp(P:Program)(ops:Array Oper)(Q:Exit->Act->World->Prop)(i:Nat)(K:Act->World->Prop)(a:Act)(w:World):Prop:=
 match ops[i]? with
 |none=>K a w
 |some o=>if Region.wanted o (yielded ops a.tmps)then o.nd P a w K Q else K (a.put o.dst undef) w
def J7(P:Program)(ops:Array Oper)(Q:Exit->Act->World->Prop):List Nat->Act->World->Prop
 |[],a,w=>Q .normal a w
 |i::rest,a,w=>wpOp P ops Q i (J7 P ops Q rest) a w
theorem Zbv(i:Nat)(rest:List Nat)(a:Act)(w:World):J7 P ops Q (i::rest) a w=wpOp P ops Q i (J7 P ops Q rest) a w:=rfl
def HL(P:Program)(md:Region.Mode)(ops:Array Oper)(Q:Exit->Act->World->Prop):Nat->Array Bool->Act->World->Prop
 |0,ar,a,w=>Region.ready md ops ar=[]/\Q .normal a w
 |fuel+1,ar,a,w=>
  (Region.ready md ops ar=[]->Q .normal a w)/\
  ∀i∈Region.ready md ops ar,wpOp P ops Q i (HL P md ops Q fuel (ar.setIfInBounds i true)) a w
abbrev AM(ro:Option Nat):Fence:={Fence.wide with round:=ro}
theorem vW{P:Program}{ro:Option Nat}{o:Oper}{a:Act}{w:World}{K:Act->World->Prop}{Q Q':Exit->Act->World->Prop}(h:o.nd P a w K Q):o.wpIn (AM ro) 0 P a w K Q':=by
 refine⟨λ_ _=>trivial,?_⟩
 have hd:∀c,o.op≠.defer c:=by
  intro c hc
  unfold Oper.nd at h
  simp only[execOp,hc,Sem.run_bind]at h
  revert h
  cases(resolve a.eval c o.type).run P w with
  |halt _ _=>exactλh=>h
  |ok d w'=>exactλh=>h
 rw[Oper.semAt_eq _ _ _ hd]
 unfold Oper.nd at h
 revert h
 generalize(execOp a.eval o).run P w=r
 intro h
 cases r with
 |halt _ _=>exact h.elim
 |ok n w'=>
  cases n with
  |value v=>exact h
  |skip=>exact h
  |enter f args=>
   refine⟨λe=>(by cases e),?_⟩
   refine CallsIn.mono (F:=Fence.wide) (callsIn_wide.2 h) λe w' ⟨v,he,hk⟩=>?_
   subst he;exact hk
  |round l f tmps assign body=>
   refine⟨λe=>(by cases e),?_⟩
   refine RoundIn.mono (F:=Fence.wide) h λe w' ⟨v,he,hk⟩=>?_
   subst he;exact hk
  |_=>exact h.elim
theorem Sp{P:Program}{ro:Option Nat}{ops:Array Oper}{Q:Exit->Act->World->Prop}:∀{l:List Nat} {a:Act} {w:World},J7 P ops Q l a w->wpOpsIn (AM ro) 0 P ops Q l a w
 |[],_,_,h=>h
 |i ::l,a,w,h=>by
  rw[Zbv]at h
  unfold wpOp at h
  unfold wpOpsIn
  split
  ·rename_i ho;simp only[ho]at h;exact Sp h
  ·rename_i o ho
   simp only[ho]at h
   split
   ·rename_i hw;rw[if_pos hw]at h;exact vW (Q:=Q) (V6 (Q':=Q) (λa w h=>Sp h) h)
   ·rename_i hw;rw[if_neg hw]at h;exact⟨λ_ _=>trivial,Sp h⟩
theorem Sq{P:Program}{ro:Option Nat}{md:Region.Mode}{ops:Array Oper}{Q:Exit->Act->World->Prop}:∀{n:Nat} {ar:Array Bool} {a:Act} {w:World},HL P md ops Q n ar a w->wpAnyIn (AM ro) 0 P md ops Q n ar a w
 |0,_,_,_,h=>h
 |n +1,ar,a,w,h=>by
  refine⟨h.1,λi hi=>?_⟩
  have h:=h.2 i hi
  unfold wpOp at h
  unfold wpOpIn
  split
  ·rename_i ho;simp only[ho]at h;exact Sq h
  ·rename_i o ho
   simp only[ho]at h
   split
   ·rename_i hw;rw[if_pos hw]at h;exact vW (Q:=Q) (V6 (Q':=Q) (λa w h=>Sq h) h)
   ·rename_i hw;rw[if_neg hw]at h;exact⟨λ_ _=>trivial,Sq h⟩
theorem Zkq(h:J7 P ops Q (List.range ops.size) a w):(Code.region id ops false).wpIn (AM ro) 0 P Q a w:=wpIn_region (Sp h)
theorem Qwq(hm:P.follows .mixedOrders=true)
 (h:HL P .any ops Q ops.size (Array.replicate ops.size false) a {w with drawn:=w.drawn+1}):(Code.region id ops true).wpIn (AM ro) 0 P Q a w:=wpIn_region_any hm (Sq h)
theorem qX{c0:Ctx}{c:Ctx}{iG:List (Nat×D)}(hi:ops[i]?=some o)
 (hs:fi N M c0 w0 c w st a) (h1:∀t,look iG t=look (rT ks st.env) t) (hd:∀t,o.dst=some t->t<N) (hG:nu P G M ops o st.env st.rows ks val R') {K:Act->World->Prop} {Q:Exit->Act->World->Prop}
 (hK:∀a' w' c',fi N M c0 w0 c' w' ⟨rU iG o.dst val,R'⟩ a'->K a' w'):wpOp P ops Q i K a w:=by
 have fin:(∀k,cw k ks=true->M<=k)->∀(v:Value) (w':World) (c':Ctx),jK ks c w c' w'->(∀r,c'.R r=R'.getD r none)->Rep c' w' val v->K (a.put o.dst v) w':=λhM v w' c' hn hR hv=>by
  refine hK _ _ c' ⟨hn.mem,hR,?_,?_,?_,hs.fy,hs.gr,hs.reach.step hM hs.gr hn⟩
  ·exact Zc9 hs.size hd (λt=>by rw[h1,BC];exact wX hn.cz (V7 (hs.env t))) hv
  ·cases ho:o.dst<;>simp[Act.put]<;>exact hs.size
  ·exact lU.put (hs.defers.step hs.mem hn.fr)
 have run:pB P G M o (cq st.env) st.rows ks val R'->o.nd P a w K Q:=λhX=>hX.toK.2 c w a hs.mem hs.base hs.rows (λx _=>MS hs.env x) K Q (fin hX.toK.1)
 have skip:ks=[]->val=.dw []->R'=st.rows->K (a.put o.dst undef) w:=λe0 e1 e2=>by
  refine hK _ _ c ⟨hs.mem,by rw[e2];exact hs.rows,?_,?_,?_,hs.fy,hs.gr,hs.reach⟩
  ·exact Zc9 hs.size hd (λt=>by rw[h1,e0,oD];exact hs.env t) (by rw[e1];exact Si _ _)
  ·cases ho:o.dst<;>simp[Act.put]<;>exact hs.size
  ·exact lU.put hs.defers
 unfold wpOp
 simp only[hi]
 unfold nu at hG
 cases hg:o.guard with
 |none=>
  simp only[hg]at hG
  have hw:Region.wanted o (yielded ops a.tmps)=true:=by simp[Region.wanted,hg]
  rw[if_pos hw]
  exact run hG
 |some jw=>
  obtain⟨j,want⟩:=jw
  simp only[hg]at hG
  obtain⟨g,h2,⟨b,h3,h4⟩|⟨h3,e0,e1,e2⟩⟩:=hG
  rotate_left
  ·have hr:=hs.env g
   rw[h3]at hr
   rw[if_neg (by rw[Sj (o:=o) hg h2 hr];simp)]
   exact skip e0 e1 e2
  have hr:=hs.env g
  rw[h3]at hr
  have hw:=Sk (o:=o) hg h2 hr
  by_cases e:b=want
  ·rw[if_pos e]at h4
   rw[if_pos (by rw[hw];simpa using e)]
   exact run h4
  ·rw[if_neg e]at h4
   rw[if_neg (by rw[hw];simpa using e)]
   exact skip h4.1 h4.2.1 h4.2.2
theorem xX{P:Program}{T:iB}(hT:ji P T){G:List ba}(hG:jz P G){N M:Nat}{ops:Array Oper}{c0:Ctx}{w0:World}{K:St->Prop}{Q:Exit->Act->World->Prop}(hQ:∀st c w a,K st->fi N M c0 w0 c w st a->Q .normal a w):
 ∀(l:List Oper) (k:Nat) (st:St) (c:Ctx) (w:World) (a:Act),ops.toList.drop k=l->lR T G N M ops l st K->fi N M c0 w0 c w st a->J7 P ops Q (bO k l.length) a w
 |[],k,st,c,w,a,_,h,hs=>hQ st c w a h hs
 |o ::l,k,st,c,w,a,hk,h,hs=>by
  have bd:k<ops.toList.length:=by
   by_cases bd:k<ops.toList.length
   ·exact bd
   ·rw[List.drop_eq_nil_of_le (by omega)]at hk;cases hk
  rw[List.drop_eq_getElem_cons bd]at hk
  have ho:ops[k]?=some o:=by
   have:=(List.cons.inj hk).1
   rw[<-this]
   simp at bd
   simp[bd]
  obtain⟨ks,val,R',iG,h1,h2,h3,h4⟩:=VJ hT hG h
  simp only[List.length_cons,List.range'_succ]
  rw[Zbv]
  exact qX ho hs h1 h2 h3 λa' w' c' iV=>xX hT hG hQ l (k+1) _ c' w' a' (List.cons.inj hk).2 h4 iV
def mL:Exit->Option Ex
 |.normal=>some .normal
 |.exit i=>some (.exit i)
 |.ret=>some .ret
 |_=>none
def tN(ro:Option Nat)(P:Program)(N M:Nat)(code:Code)(st:St)(Q:Ex->St->Prop):Prop:=
 ∀ (c0:Ctx) (w0:World) (c:Ctx) (w:World) (a:Act),fi N M c0 w0 c w st a->
  code.wpIn (AM ro) 0 P (λe a' w'=>∃ex jq c',mL e=some ex/\Q ex jq/\fi N M c0 w0 c' w' jq a') a w
abbrev Tr:=tN none
def Ctx.oV(c:Ctx)(R:Rows)(ks:List Nat):Ctx:=
 {c with R:=λr=>if cw r ks=true then none else(c.R r).map (Row.me R ks),I:=λb=>c.I b\/∃r row,cw r ks=true/\c.R r=some row/\¬c.V r/\c.ρ r=b}
section
variable {c:Ctx} {w:World} {R:Rows} {ks:List Nat}
theorem Zgv(R:Rows)(ks:List Nat)(row:Row):(row.me R ks).box=row.box/\(row.me R ks).ty=row.ty/\(row.me R ks).sz=row.sz/\(row.me R ks).es.l.length=row.es.l.length:=by
 unfold Row.me;split<;>exact⟨rfl,rfl,rfl,rfl⟩
theorem Z7w:∀{e:List D},(D.sd R ks e).length=e.length
 |[]=>rfl
 |d::l=>by simp[D.sd,Z7w (e:=l)]
theorem Zkz:jc (c.kill ks) w (c.oV R ks) w:=by
 refine⟨rfl,aX _,λb h=>⟨.inl h,rfl⟩,λr x hx=>?_⟩
 obtain⟨h1,row,h2,rfl⟩:=na hx
 obtain⟨s1,s2,s3,s4⟩:=Zgv R ks row
 obtain⟨k1,k2,k3,k4⟩:=u6 ks row
 refine⟨row.me R ks,?_,s1.trans k1.symm,s2.trans k2.symm,s3.trans k3.symm,s4.trans k4.symm,rfl,Iff.rfl,λ_ arr h=>⟨arr,h,rfl⟩⟩
 show(if cw r ks=true then none else(c.R r).map (Row.me R ks))=_
 rw[h1,h2];rfl
theorem Z20:∀{ds:List D} {arr:Array Value} {off:Nat},ds.all D.plain=true->kH c w ds arr off->oH c.I w ds arr off
 |[],_,_,_,_=>Du.2 trivial
 |d::ds,arr,off,hp,⟨⟨v,hv,h1⟩,h2⟩=>by
  rw[List.all_cons,aE]at hp
  exact Dv.2 ⟨⟨v,hv,dc.plain hp.1 h1⟩,Z20 hp.2 h2⟩
variable (hm:Mem c w) (hA:∀r,c.R r=R.getD r none)
include hm hA
theorem V8(h:dc c w d v):dc (c.oV R ks) w (d.BF R ks) v:=by
 have HS:∀{d:D},dc c w d v->dc (c.oV R ks) w (d.ed ks) v:=λh=>Sr Zkz (Ss h)
 cases d with
 |all r=>
  simp only[D.BF]
  cases hb:cw r ks with
  |false=>
   have:=HS h
   simpa only[D.ed,hb]using this
  |true=>
   obtain⟨row,g1,g2,hv⟩:=h
   have hr:R.getD r none=some row:=by rw[<-hA r];exact g1
   obtain⟨box,ty,sz,es⟩:=row
   simp only at g2
   subst g2
   simp only[hr]
   rcases hv with⟨hV,a,hv,_⟩|⟨hV,cap,arr,hv,g3,g4,g5,g6⟩
   ·have he:=(hm.nm g1 hV).2.1
    simp only at he
    exact⟨a,0,by rw[he];exact hv,by rw[he];exact aX _,.inl he⟩
   ·obtain⟨iK,jB,hs,hx⟩:=hm.real g1 hV
    simp only at g5 jB hx
    rw[g5]at jB;cases jB
    simp only[aA,if_false]at hx
    exact⟨_,cap,hv,g3,.inr ⟨_,0,arr,_,_,rfl,.inr ⟨r,_,hb,g1,hV,rfl⟩,by simp,g5,nq (λb hb=>⟨.inl hb,rfl⟩) _ _ _ _ hx⟩⟩
 |ptr r i off=>
  simp only[D.BF]
  cases hb:cw r ks with
  |false=>
   have:=HS h
   simpa only[D.ed,hb]using this
  |true=>
   obtain⟨row,g1,g2,g3,hv⟩:=h
   have hr:R.getD r none=some row:=by rw[<-hA r];exact g1
   simp only
   split
   ·rename_i ty sz e he
    rw[he]at hr;cases hr
    split
    ·rename_i hp
     obtain⟨arr,ha,hs,hx⟩:=hm.real g1 g2
     simp only[if_true]at hx
     obtain⟨e',k1,k2,k3,k4⟩:=hx
     have k1:[e]=[e']:=by injection k1
     have k1:e=e':=(List.cons.inj k1).1
     subst k1
     refine⟨c.ρ r,0,arr,ty,(0,0),?_,.inr ⟨r,_,hb,g1,g2,rfl⟩,g3,ha,pI.2 ⟨k2,Zmu (λb hb=>⟨.inl hb,rfl⟩) _ _ _ (Z20 hp k4),pX.2 trivial⟩⟩
     rw[hv];simp
    ·rw[hv];rfl
   ·rw[hv];rfl
 |_=>exact HS h
theorem Zoq:∀{ds:List D} {vs:List Value},jm c w ds vs->jm (c.oV R ks) w (D.sd R ks ds) vs
 |[],[],_=>trivial
 |_::_,_::_,h=>⟨V8 hm hA h.1,Zoq h.2⟩
 |[],_::_,h=>h.elim
 |_::_,[],h=>h.elim
theorem Zq2(h:VRep c w d v):VRep (c.oV R ks) w (d.HT R ks) v:=by
 cases d with
 |agg cs=>obtain⟨vs,hv,hr⟩:=h;exact⟨vs,hv,Zoq hm hA hr⟩
 |_=>
  have:=V8 (ks:=ks) hm hA (VRep.toC (λcs e=>by cases e) h)
  exact VRep.Ee this
theorem Zpc:∀{ds:List D} {vs:List Value},j9 c w ds vs->j9 (c.oV R ks) w (D.HU R ks ds) vs
 |[],[],_=>trivial
 |_::_,_::_,h=>⟨Zq2 hm hA h.1,Zpc h.2⟩
 |[],_::_,h=>h.elim
 |_::_,[],h=>h.elim
theorem zG(h:Rep c w d v):Rep (c.oV R ks) w (d.BG R ks) v:=by
 cases d with
 |dw ds=>obtain⟨vs,hv,hr⟩:=h;exact⟨vs,hv,Zpc hm hA hr⟩
 |dead=>trivial
 |_=>
  have:=Zq2 (ks:=ks) hm hA (Rep.toV (λds e=>by cases e) (λe=>by cases e) h)
  exact Rep.J5 this
theorem Zjg:∀{ds:List D} {arr:Array Value} {off:Nat},kH c w ds arr off->kH (c.oV R ks) w (D.sd R ks ds) arr off
 |[],_,_,_=>trivial
 |_::_,_,_,⟨⟨v,hv,h1⟩,h2⟩=>⟨⟨v,hv,V8 hm hA h1⟩,Zjg h2⟩
theorem zab(h:Eh c w r row):Eh (c.oV R ks) w r (row.me R ks):=by
 obtain⟨s1,s2,s3,s4⟩:=Zgv R ks row
 rcases h with⟨h0,h1,h2,h3⟩|⟨h0,arr,ha,hs,hx⟩
 ·refine .inl ⟨h0,s1.trans h1,?_,by rw[s3];exact h3⟩
  rw[h2]at s4;exact List.eq_nil_of_length_eq_zero s4
 ·refine .inr ⟨h0,arr,by rw[s2];exact ha,by rw[s3];exact hs,?_⟩
  rw[s1,s3]
  split
  ·rename_i hb
   simp only[hb,if_true]at hx
   obtain⟨e,k1,k2,k3,k4⟩:=hx
   obtain⟨box,ty,sz,es⟩:=row
   simp only at hb k1 k2 k3 k4
   subst hb;subst k1
   exact⟨D.sd R ks e,rfl,by rw[Z7w];exact k2,k3,Zjg hm hA k4⟩
  ·rename_i hb
   simp only[hb,aA,if_false]at hx
   have he:(row.me R ks).es=row.es:=by
    unfold Row.me
    split
    ·simp at hb
    ·rfl
   rw[he];exact nq (λb hb=>⟨.inl hb,rfl⟩) _ _ _ _ hx
omit hm hA in
theorem J8{x:Row}(h:(c.oV R ks).R r=some x):cw r ks=false/\∃row,c.R r=some row/\x=row.me R ks:=by
 simp only[Ctx.oV]at h
 cases hb:cw r ks with
 |true=>rw[hb]at h;simp at h
 |false=>
  rw[hb]at h
  simp only[aA,if_false,Option.map_eq_some_iff]at h
  obtain⟨row,h1,h2⟩:=h
  exact⟨rfl,row,h1,h2.symm⟩
theorem xab:Mem (c.oV R ks) w:=by
 refine⟨λr x hx=>?_,λr s x y hx hy v1 v2 he=>?_,λb hb=>?_,hm.top,hm.jV.mono λb hb=>⟨.inl hb,rfl⟩⟩
 ·obtain⟨_,row,h1,rfl⟩:=J8 hx
  exact zab hm hA (hm.row r row h1)
 ·obtain⟨_,row,h1,_⟩:=J8 hx
  obtain⟨_,ao,h2,_⟩:=J8 hy
  exact hm.inj r s row ao h1 h2 v1 v2 he
 ·rcases hb with hb|⟨s,row,h1,h2,h3,rfl⟩
  ·refine⟨(hm.fh b hb).1,λr x hx v=>?_⟩
   obtain⟨_,row,h1,_⟩:=J8 hx
   exact(hm.fh b hb).2 r row h1 v
  ·refine⟨hm.lt h2 h3,λr x hx v e=>?_⟩
   obtain⟨h4,ao,h5,_⟩:=J8 hx
   have:=hm.inj r s ao row h5 h2 v h3 e
   rw[this,h1]at h4;cases h4
end
theorem Zc{R0:Rows}{ks:List Nat}:∀{R:Rows} {i r:Nat},(J9 R0 ks R i).getD r none=if cw (i+r) ks=true then none else(R.getD r none).map (Row.me R0 ks)
 |[],i,r=>by simp[J9]
 |x::l,i,0=>by
  simp only[J9,aB]
  cases cw i ks<;>cases x<;>simp
 |x::l,i,r+1=>by
  have:=Zc (R0:=R0) (ks:=ks) (R:=l) (i:=i+1) (r:=r)
  rw[show i+1+r=i+(r+1) by omega]at this
  simpa[J9]using this
def ub(R:Rows)(ks:List Nat)(env:List (Nat×D)):List (Nat×D):=env.map λx=>(x.1,x.2.BG R ks)
theorem Zq3{R:Rows}{ks:List Nat}:∀{env:List (Nat×D)} {K:List (Nat×D)->Prop},Ei R ks env K↔K (ub R ks env)
 |[],_=>Iff.rfl
 |(t,d)::l,K=>by
  simp only[Ei,D.c8]
  rw[Zq3 (env:=l) (K:=λl=>K ((t,d.BG R ks)::l))]
  rfl
theorem Zpt{R:Rows}{ks:List Nat}:∀{env:List (Nat×D)} {t:Nat},look (ub R ks env) t=(look env t).BG R ks
 |[],_=>rfl
 |(u,d)::l,t=>by
  simp only[ub,List.map_cons,look]
  split
  ·rfl
  ·exact Zpt (env:=l)
theorem V9{M:Nat}{R:Rows}:∀{l:List Nat} {r:Nat},r∈uc M R l->M<=r
 |x ::l,r,h=>by
  simp only[uc]at h
  split at h
  ·rename_i hb
   rcases List.mem_cons.1 h with e|h
   ·rw[e];rw[aE]at hb;exact lE hb.1
   ·exact V9 h
  ·exact V9 h
theorem qac{c0:Ctx}{c:Ctx}{K:St->Prop}(h:HV T G M ops st K)(hs:fi N M c0 w0 c w st a):∃jq c',K jq/\fi N M c0 w0 c' w jq a:=by
 unfold HV at h
 split at h
 ·exact⟨st,c,h,hs⟩
 ·rename_i ks hk
  have hM:∀k,cw k (uc M st.rows (Su T G st.env st.rows [] [] ops.toList))=true->M<=k:=λk hk=>V9 (nN.1 hk)
  generalize uc M st.rows (Su T G st.env st.rows [] [] ops.toList)=ks at*
  rw[Zq3,nf]at h
  have hm:=xab (ks:=ks) hs.mem hs.rows
  refine⟨_,c.oV st.rows ks,h,hm,λr=>?_,λt=>?_,hs.size,hs.defers,hs.fy,hs.gr,hs.reach.step (ks:=ks) hM hs.gr ⟨hm,Zkz,Fr.refl _ w,λb hb=>?_,λr ao hr hv=>?_⟩⟩
  ·rw[Zc,bG,<-hs.rows r];rfl
  ·rw[Zpt];exact zG hs.mem hs.rows (hs.env t)
  ·rcases hb with hb|hb
   ·exact .inl hb
   ·exact .inr (.inl hb)
  ·obtain⟨_,row,h1,_⟩:=J8 hr
   exact .inl ⟨⟨row,h1⟩,hv,rfl⟩
theorem vb{c:Ctx}(hm:Mem c w){e e':List D}(hr:c.R r=some ⟨true,ty,sz,.gen [e]⟩)(hl:e'.length=e.length)(hc:∀arr,kH c w e arr 0->kH c w e' arr 0):jc c w (c.jP r ⟨true,ty,sz,.gen [e']⟩) w/\Mem (c.jP r ⟨true,ty,sz,.gen [e']⟩) w:=by
 have hg:jc c w (c.jP r ⟨true,ty,sz,.gen [e']⟩) w:=by
  refine⟨rfl,aX _,λb hb=>⟨hb,rfl⟩,λs x hs=>?_⟩
  by_cases e:s=r
  ·subst e
   rw[hr]at hs;cases hs
   exact⟨⟨true,ty,sz,.gen [e']⟩,by simp[Ctx.jP],rfl,rfl,rfl,rfl,rfl,Iff.rfl,λ_ a ha=>⟨a,ha,rfl⟩⟩
  ·exact⟨x,by simp[Ctx.jP,e,hs],rfl,rfl,rfl,rfl,rfl,Iff.rfl,λ_ a ha=>⟨a,ha,rfl⟩⟩
 have jC:∀s x,(c.jP r ⟨true,ty,sz,.gen [e']⟩).R s=some x->∃x',c.R s=some x':=λs x hs=>by
  by_cases e:s=r
  ·exact⟨_,by rw[e];exact hr⟩
  ·exact⟨x,by simpa[Ctx.jP,e]using hs⟩
 refine⟨hg,λs x hs=>?_,λs q x y hs hq v1 v2 he=>?_,λb ig=>⟨(hm.fh b ig).1,λs x hs hv=>?_⟩,hm.top,hm.jV⟩
 ·by_cases es:s=r
  ·subst es
   simp only[Ctx.jP,if_true,Option.some.injEq]at hs
   subst hs
   rcases hm.row _ _ hr with⟨g0,g1,g2,g3⟩|⟨g0,arr,g1,g2,g3⟩
   ·cases g1
   ·refine .inr ⟨g0,arr,g1,g2,?_⟩
    simp only[if_true]at g3⊢
    obtain⟨e0,q1,q2,q3,q4⟩:=g3
    cases q1
    exact⟨e',rfl,hl.trans q2,q3,MW hg (hc arr q4)⟩
  ·have iV:c.R s=some x:=by simpa[Ctx.jP,es]using hs
   exact tk hg rfl Iff.rfl (λ_=>rfl) (hm.row s x iV)
 ·obtain⟨x',jJ⟩:=jC s x hs
  obtain⟨y',w5⟩:=jC q y hq
  exact hm.inj s q x' y' jJ w5 v1 v2 he
 ·obtain⟨x',jJ⟩:=jC s x hs
  exact(hm.fh b ig).2 s x' jJ hv
theorem qc(h:ud T R i=some (ty,sz,e,n)):0<n/\∃d,R.getD i none=some ⟨true,ty,sz,.gen [[d]]⟩/\(d=.c9\/d=.emp):=by
 unfold ud at h
 split at h
 ·rename_i jS j4 d hr
  have go:∀{x:Option (TypeId×Nat×TypeId×Nat)},x=some (ty,sz,e,n)->(x=match T.get jS with|some ⟨.slice e n,_,_,_,_,_⟩=>(match bN 0 n with|true=>some (jS,j4,e,n)|false=>none)|_=>none)->0<n/\jS=ty/\j4=sz:=by
   intro x hx hy
   rw[hx]at hy
   split at hy
   ·split at hy
    ·rename_i hb;cases hy;exact⟨lE hb,rfl,rfl⟩
    ·cases hy
   ·cases hy
  split at h
  ·obtain⟨h1,rfl,rfl⟩:=go h rfl
   exact⟨h1,_,hr,.inl rfl⟩
  ·obtain⟨h1,rfl,rfl⟩:=go h rfl
   exact⟨h1,_,hr,.inr rfl⟩
  ·cases h
 ·cases h
theorem Qm{N M:Nat}{c0:Ctx}{w0:World}{w:World}{a:Act}{T:iB}{env:List (Nat×D)}{K:Rows->Prop}:∀{l:List iD} {R:Rows} {c:Ctx},HW T l env R K->fi N M c0 w0 c w ⟨env,R⟩ a->∃R' c',K R'/\fi N M c0 w0 c' w ⟨env,R'⟩ a
 |[],R,c,h,hs=>⟨R,c,h,hs⟩
 |.int _ _::l,R,c,h,hs=>Qm (l:=l) h hs
 |.arr _::l,R,c,h,hs=>Qm (l:=l) h hs
 |.sl _ _ _::l,R,c,h,hs=>Qm (l:=l) h hs
 |.fn _ _::l,R,c,h,hs=>Qm (l:=l) h hs
 |.ptr i _ _::l,R,c,h,hs=>by
  simp only[HW]at h
  split at h
  rotate_left
  ·exact Qm (l:=l) h hs
  rename_i ty sz u n hr
  obtain⟨h0,d,h2,hd⟩:=qc hr
  simp only[nf,Ka]at h
  have bd:i<R.length:=by
   by_cases bd:i<R.length
   ·exact bd
   ·rw[aV,aJ (by omega)]at h2;cases h2
  rw[List.set_append_left _ _ bd]at h
  have hi:c.R i=some ⟨true,ty,sz,.gen [[d]]⟩:=by rw[hs.rows];exact h2
  have hn:c.R R.length=none:=by rw[hs.rows,aV,aJ (aX _)];rfl
  have gq:i≠R.length:=by omega
  have HX:=Wa hs.mem hn (row:=⟨false,u,n,.gen []⟩) rfl rfl h0
  have Wb:=Sv (w:=w) hn ⟨false,u,n,.gen []⟩
  have Wc:(c.ju R.length ⟨false,u,n,.gen []⟩).R i=some ⟨true,ty,sz,.gen [[d]]⟩:=by simp[Ctx.ju,gq,hi]
  obtain⟨Wd,BH⟩:=vb (e':=[.all R.length]) HX Wc rfl (λarr hc=>by
   obtain⟨⟨v,hv,h1⟩,_⟩:=hc
   refine⟨⟨v,hv,⟨false,u,n,.gen []⟩,by simp[Ctx.ju],rfl,.inl ⟨.inl rfl,?_⟩⟩,trivial⟩
   rcases hd with rfl|rfl
   ·exact⟨none,h1,MX⟩
   ·exact h1)
  have hg:=Wb.trans Wd
  have nA:lJ c w ((c.ju R.length ⟨false,u,n,.gen []⟩).jP i ⟨true,ty,sz,.gen [[.all R.length]]⟩) w:=by
   refine⟨BH,hg,Fr.refl _ w,λb hb=>.inl hb,λr ao hr hv=>.inl ?_⟩
   have We:r≠R.length:=λe=>hv (.inl e)
   by_cases er:r=i
   ·subst er;exact⟨⟨_,hi⟩,λe=>hv (.inr e),rfl⟩
   ·exact⟨⟨ao,by simpa[Ctx.jP,Ctx.ju,er,We]using hr⟩,λe=>hv (.inr e),rfl⟩
  refine Qm (l:=l) h ⟨BH,λr=>?_,λt=>wX hg (hs.env t),hs.size,hs.defers,hs.fy,hs.gr,hs.reach.step (ks:=[]) (λk hk=>by simp[cw]at hk) hs.gr nA.toK⟩
  simp only[Ctx.jP,Ctx.ju]
  by_cases er:r=i
  ·subst er
   simp[aV,bI (show r<(R.set r _).length by simpa using bd),bd]
  ·rw [if_neg er]
   by_cases en:r=R.length
   ·subst en
    simp[aV]
   ·rw[if_neg en,hs.rows]
    by_cases hl:r<R.length
    ·simp[aV,bI (show r<(R.set i _).length by simpa using hl),List.getElem?_set_ne (Ne.symm er)]
    ·have h1:R.getD r none=none:=by rw[aV,aJ (by omega)];rfl
     rw[h1,aV,aJ (by simp;omega)];rfl
