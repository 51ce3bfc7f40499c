import Derived.Test.YtaemmjbkndlkeaaGreatMigrateStartsFk
import Derived.Laws.IdiomStrings
import Derived.Laws.BytesArg
import Derived.Laws.Cover3
import Derived.RangeFuncRecord
import Derived.OrdersIn
import Derived.LoopNIn
open List renaming getD->aV,getElem?_take->aF,getElem?_toArray->bH,getElem?_append_left->bI,size_toArray->aK,getElem?_append_right->bJ,length_take->aD,length_drop->aG,getElem?_eq_none->aJ,range'->bO,map_append->bP,map_congr_left->bQ,ext_getElem->bR,getElem_map->bS,getElem_range'->bT,map_toArray->bV
open Nat renaming mul_le_mul_right->bD,succ_mul->bF,zero_add->bG,add_mul->bK,le_refl->aX,add_zero->aB,le_trans->bL,lt_of_lt_of_le->bM,blt->bN
open Bool renaming or_eq_true->aT,false_eq_true->aA
open Array renaming getD->aY,empty_append->bU,toArray_toList->bW
open Option renaming bind_some->aW
set_option linter.all false
namespace Go.GD
open Go
variable {B M N g i id j k n r sz:Nat}{G:List bb}{I:ab}{K:D->Prop}{P:Program}{Q:Exit->Act->World->Prop}{R R':Rows}{T:iy}{a:Act}{after:Array Edge}{args:Array Operand}{b want:Bool}{cs:List iE}{d val x:D}{ds:List Deferred}{dst:Option Tmp}{e ty type:TypeId}{es:ai}{ev:Operand->D}{ks:List Nat}{news us:List Value}{o:Oper}{ops:Array Oper}{pos:String}{ro:Option Nat}{row:Row}{st:St}{dj:Array TypeId}{v:Value}{w w' w0:World}
theorem Zj5(w:World){t tx ty e:TypeId}{i:TypeInfo}(ht:P.underlying t=some (.slice e))(hi:P.info? e=some i)
 {a:Option Addr} {n cap m:Nat} {x:Value} {news:List Value} (hl:(Builtin.lenOf x).run P w=.ok m w) (hf:(Builtin.firstCells i.size (min m n) x).run P w=.ok news.toArray w) {w':World}
 (jZ:∀b,a=some b->(storeCells b news).run P w=.ok () w') (nf:a=none->w'=w):
 (Builtin.copy_ #[t,tx] ty #[.slice a n cap,x]).run P w=.ok (.int .i64 (min m n:Nat)) w':=by
 cases a with
 |none=>
  have:=nf rfl
  subst this
  simp[Builtin.copy_,run_underlying ht,sizeOf,typeInfo,hi,hl,goInt,hf]
 |some b=>simp[Builtin.copy_,run_underlying ht,sizeOf,typeInfo,hi,hl,goInt,hf,jZ b rfl]
theorem Zev{es:List (List D)}(h:iq I w es news.toArray 0 sz)(hk:k<=es.length):iq I w (es.take k) (news.take (k*sz)).toArray 0 sz:=by
 rw[tz]at h⊢
 intro i hi
 have iG:i<k:=by simp at hi;omega
 obtain⟨h1,h2⟩:=h i (by omega)
 have he:(es.take k).getD i []=es.getD i []:=by simp[aV,aF,iG]
 rw[he]
 refine⟨h1,?_⟩
 rw[tY]at h2⊢
 intro j hj
 obtain⟨v,hv,hp⟩:=h2 j hj
 refine⟨v,?_,hp⟩
 have bd:i*sz+j<k*sz:=by
  have:=bD sz (show i+1<=k by omega)
  rw[bF]at this
  omega
 simp only[bG,bH]at hv⊢
 rw[aF,if_pos bd]
 exact hv
theorem Z3h{es ys:List (List D)}{A B:List Value}(h1:iq I w es A.toArray 0 sz)(hA:A.length=es.length*sz)(h2:iq I w ys B.toArray 0 sz):iq I w (es++ys) (A++B).toArray 0 sz:=by
 rw[tz]at h1 h2⊢
 intro i hi
 by_cases bd:i<es.length
 ·have he:(es++ys).getD i []=es.getD i []:=by simp[aV,bI bd]
  rw[he]
  obtain⟨g1,g2⟩:=h1 i bd
  refine⟨g1,?_⟩
  rw[tY]at g2⊢
  intro j hj
  obtain⟨v,hv,hp⟩:=g2 j hj
  refine⟨v,?_,hp⟩
  have hl:=(Array.getElem?_eq_some_iff.1 hv).1
  simp only[bH,aK]at hv hl⊢
  rw[bI hl];exact hv
 ·have iG:i-es.length<ys.length:=by simp at hi;omega
  have he:(es++ys).getD i []=ys.getD (i-es.length) []:=by simp[aV,bJ (show es.length<=i by omega)]
  rw[he]
  obtain⟨g1,g2⟩:=h2 _ iG
  refine⟨g1,?_⟩
  rw[tY]at g2⊢
  intro j hj
  obtain⟨v,hv,hp⟩:=g2 j hj
  refine⟨v,?_,hp⟩
  simp only[bH]at hv⊢
  have e:0+i*sz+j=A.length+(0+(i-es.length)*sz+j):=by
   rw[hA,show i*sz=(es.length+(i-es.length))*sz by congr 1;omega,bK];omega
  rw[e,bJ (by omega)]
  rw[show A.length+(0+(i-es.length)*sz+j)-A.length=0+(i-es.length)*sz+j by omega]
  exact hv
theorem Zv5{es:List (List D)}{arr:Array Value}(h:iq I w es arr 0 sz):iq I w (es.drop k) (arr.toList.drop (k*sz)).toArray 0 sz:=by
 have:=Kx (l:=k) h
 rw[tz]at this⊢
 intro i hi
 obtain⟨h1,h2⟩:=this i hi
 refine⟨h1,?_⟩
 rw[tY]at h2⊢
 intro j hj
 obtain⟨v,hv,hp⟩:=h2 j hj
 refine⟨v,?_,hp⟩
 simp only[bH,List.getElem?_drop]
 rw[<-hv]
 simp[Nat.add_assoc]
theorem qH{c:Ctx}(hm:Mem c w){row ao:Row}(hr:c.R r=some row)(h1:ao.box=row.box)(hb:row.box=false)(h2:ao.ty=row.ty)(h3:ao.sz=row.sz)(h4:ao.es.l=row.es.l):Q4 c w (c.jT r ao) w/\Mem (c.jT r ao) w:=by
 have hg:Q4 c w (c.jT r ao) w:=by
  refine⟨rfl,aX _,λb hb=>⟨hb,rfl⟩,λs x hs=>?_⟩
  by_cases e:s=r
  ·subst e
   rw[hr]at hs;cases hs
   exact⟨ao,by simp[Ctx.jT],h1,h2,h3,by rw[h4],rfl,Iff.rfl,λ_ a ha=>⟨a,ha,rfl⟩⟩
  ·exact⟨x,by simp[Ctx.jT,e,hs],rfl,rfl,rfl,rfl,rfl,Iff.rfl,λ_ a ha=>⟨a,ha,rfl⟩⟩
 have jD:∀s x,(c.jT r ao).R s=some x->∃x',c.R s=some x':=λs x hs=>by
  by_cases e:s=r
  ·exact⟨row,by rw[e];exact hr⟩
  ·exact⟨x,by simpa[Ctx.jT,e]using hs⟩
 refine⟨hg,λs x hs=>?_,λs q x y hs hq v1 v2 he=>?_,λb ij=>⟨(hm.fh b ij).1,λs x hs hv=>?_⟩,hm.top,hm.jY⟩
 ·by_cases e:s=r
  ·subst e
   simp only[Ctx.jT,if_true,Option.some.injEq]at hs
   subst hs
   rcases hm.row _ row hr with⟨g0,g1,g2,g3⟩|⟨g0,arr,g1,g2,g3⟩
   ·exact .inl ⟨g0,h1.trans g1,h4.trans g2,by rw[h3];exact g3⟩
   ·refine .inr ⟨g0,arr,by rw[h2];exact g1,by rw[h3];exact g2,?_⟩
    rw[if_neg (by rw[hb];simp)]at g3
    rw[if_neg (by rw[h1,hb];simp),h4,h3]
    exact g3
  ·have iT:c.R s=some x:=by simpa[Ctx.jT,e]using hs
   exact tw hg rfl Iff.rfl (λ_=>rfl) (hm.row s x iT)
 ·obtain⟨x',jK⟩:=jD s x hs
  obtain⟨y',Ac⟩:=jD q y hq
  exact hm.inj s q x' y' jK Ac v1 v2 he
 ·obtain⟨x',jK⟩:=jD s x hs
  exact(hm.fh b ij).2 s x' jK hv
theorem za(hT:ji P T){t tx ty:TypeId}{x y:D}{K:D->Rows->Prop}(h:tZ T t tx x y R K):
 ∃ val R',K val R'/\∀c w vx vy,Mem c w->(∀r,c.R r=R.getD r none)->Rep c w x vx->Rep c w y vy->
  ∃v' w' c',(Builtin.copy_ #[t,tx] ty #[vx,vy]).run P w=.ok v' w'/\lM c w c' w'/\(∀r,c'.R r=R'.getD r none)/\Rep c' w' val v':=by
 unfold tZ at h
 split at h
 ·rename_i e iJ _ _ _ _ _ ht
  have hk:=mG hT ht
  simp only at hk
  split at h
  ·rename_i ke sz lF cs z q kx _ _ _ _ _ he htx
   obtain⟨i0,pC,BG,_,Ky,Ad,_⟩:=DC (hT.get he)
   simp only at BG
   split at h
   ·rename_i sy ys jU
    simp only[dd,aE,aT]at h
    obtain⟨⟨⟨h0,h1⟩,h5⟩,h⟩:=h
    have h0:0<sz:=lE h0
    have h5:sy=sz\/ys.l=[]:=h5.imp bE S3
    have core:∀(r o n k:Nat) (jV:TypeId) (es iW:ai),iW.l=es.l.take o++ys.l.take k++es.l.drop (o+k)->R.getD r none=some ⟨false,jV,sz,es⟩->k=min ys.l.length n->o+n<=es.l.length->∀c w vx vy,Mem c w->(∀r,c.R r=R.getD r none)->
     ((n=0/\∃a,vx=.slice a 0 0)\/(¬c.V r/\∃cap arr,vx=.slice (some ⟨c.ρ r,o*sz,none⟩) n cap/\w.heap[c.ρ r]?=some (.cells arr jV (0,0))))->Rep c w y vy->
     ∃v' w' c',(Builtin.copy_ #[t,tx] ty #[vx,vy]).run P w=.ok v' w'/\lM c w c' w'/\(∀q,c'.R q=(R.set r (some ⟨false,jV,sz,iW⟩)).getD q none)/\v'=.int .i64 (k:Nat):=by
     intro r o n k jV es iW Ii hr u7 Kz c w vx vy hm hR hx hy
     have oW:mh c R:=λr row ao g1 g2=>by rw[hR,g2]at g1;exact(Option.some.inj g1).symm
     obtain⟨news,s1,s2,s3,s4⟩:=qac (P:=P) h0 jU h5 hm oW hy
     have c6:c.R r=some ⟨false,jV,sz,es⟩:=by rw[hR];exact hr
     rcases hx with⟨hn0,a,hx⟩|⟨hV,cap,arr,hx,hh⟩
     ·subst hx
      have Ad:k=0:=by omega
      have im:=Zj5 (P:=P) w (ty:=ty) (tx:=tx) (a:=a) (n:=0) (cap:=0) (news:=[]) (w':=w) hk.1 pC s2 (by rw[BG];simpa using s3 0 (Nat.zero_le _) w rfl) (λb _=>by simp[storeCells]) (λ_=>rfl)
      have hl:iW.l=es.l:=by rw[Ii,Ad];simp
      obtain⟨u1,u2⟩:=qH hm c6 (ao:=⟨false,jV,sz,iW⟩) rfl rfl rfl rfl hl
      refine⟨_,w,c.jT r ⟨false,jV,sz,iW⟩,im,⟨u2,u1,Fr.refl _ w,λb hb=>.inl hb,λq row hq v=>.inl ⟨?_,v,rfl⟩⟩,λq=>?_,by rw[Ad];simp⟩
      ·by_cases e:q=r
       ·exact⟨_,by rw[e];exact c6⟩
       ·exact⟨row,by simpa[Ctx.jT,e]using hq⟩
      ·rw[Gf hr]
       simp only[Ctx.jT]
       split
       ·rfl
       ·exact hR q
     ·subst hx
      obtain⟨cur,ha,_,hE⟩:=hm.real c6 hV
      simp only at ha
      rw[hh]at ha;cases ha
      simp only[aA,if_false]at hE
      have kI:es.l.length*sz<=arr.size:=by
       by_cases he:es.l.length=0
       ·rw[he];omega
       ·have:=Z7c hE h0 (show es.l.length-1<es.l.length by omega)
        have e1:es.l.length*sz=(es.l.length-1)*sz+sz:=by rw[show es.l.length*sz=(es.l.length-1+1)*sz by congr 1;omega,bF]
        omega
      have WG:k<=ys.l.length/\k<=n:=by omega
      have mL:o*sz+0+(news.take (k*sz)).length<=arr.size:=by
       have h1:(o+k)*sz<=es.l.length*sz:=bD _ (by omega)
       rw[bK]at h1
       rw[aD];omega
      have hlen:(news.take (k*sz)).length=k*sz:=by
       have:=bD sz WG.1
       rw[aD];omega
      have jZ:=run_storeCells_at (P:=P) (c.ρ r) (o*sz) jV (news.take (k*sz)) 0 arr w hh mL (λu hu=>iq.one s4 s1 u (List.mem_of_mem_take hu))
      have im:=Zj5 (P:=P) w (ty:=ty) (tx:=tx) (a:=some ⟨c.ρ r,o*sz,none⟩) (n:=n) (cap:=cap) (news:=news.take (k*sz)) (w':=w.setRow (c.ρ r) (arr.toList.take (o*sz+0)++news.take (k*sz)++arr.toList.drop (o*sz+0+(news.take (k*sz)).length)).toArray) hk.1 pC s2 (by rw[BG,<-u7];exact s3 k WG.1 w rfl) (λb hb=>by cases hb;simpa using jZ) (λh=>by cases h)
      have wc:iW.l.length=es.l.length:=by rw[Ii];simp only[lA,aD,aG];omega
      have hw:=hm.write (ao:=⟨false,jV,sz,iW⟩) c6 hV hh (arr:=(arr.toList.take (o*sz+0)++news.take (k*sz)++arr.toList.drop (o*sz+0+(news.take (k*sz)).length)).toArray)
       (by simp only[aK,lA,aD,aG,Array.length_toList];simp only[aD]at mL;omega) rfl rfl rfl wc
      have je:=hw.2 ⟨h0,by
       simp only[aA,if_false]
       rw[Ii]
       refine nB (λb hb=>⟨hb,(hw.1.I b hb).2⟩) _ _ _ _ ?_
       have p1:=Zev (k:=o) (I:=c.I) (w:=w) (news:=arr.toList) (es:=es.l) (sz:=sz) (by simpa using hE) (by omega)
       have p2:=Zev (k:=k) s4 WG.1
       have p3:=Zv5 (k:=o+k) hE
       have l1:(arr.toList.take (o*sz)).length=(es.l.take o).length*sz:=by
        have:=bD sz (show o<=es.l.length by omega)
        rw[aD,aD,show min o es.l.length=o by omega,show arr.toList.length=arr.size from rfl];omega
       have q1:=Z3h p1 l1 p2
       have l2:(arr.toList.take (o*sz)++news.take (k*sz)).length=(es.l.take o++ys.l.take k).length*sz:=by
        rw[lA,l1,hlen,lA,bK,aD (l:=ys.l),show min k ys.l.length=k by omega]
       have q2:=Z3h q1 l2 p3
       have e2:o*sz+0+(news.take (k*sz)).length=(o+k)*sz:=by rw[hlen,bK];omega
       rw[e2]
       simpa using q2⟩
      refine⟨_,_,c.jT r ⟨false,jV,sz,iW⟩,im,⟨je,hw.1,(SQ w _ _).mono λb _ hb=>⟨r,_,c6,hV,hb.symm⟩,λb hb=>.inl hb,λq ao hq v=>.inl ⟨?_,v,rfl⟩⟩,λq=>?_,by rw[u7]⟩
      ·by_cases e:q=r
       ·exact⟨_,by rw[e];exact c6⟩
       ·exact⟨ao,by simpa[Ctx.jT,e]using hq⟩
      ·rw[Gf hr]
       simp only[Ctx.jT]
       split
       ·rfl
       ·exact hR q
    cases x<;>simp only at h
    case all r=>
     split at h
     ·rename_i jV s es hr
      simp only[dd,nk]at h
      have hs:=bE h.1
      subst hs
      refine⟨_,_,h.2,λc w vx vy hm hR hx hy=>?_⟩
      obtain⟨row,q1,q2,hv⟩:=hx
      have c6:row=⟨false,jV,s,es⟩:=by rw[hR,hr]at q1;exact(Option.some.inj q1).symm
      subst c6
      have jK:(es.l.length=0/\∃a,vx=.slice a 0 0)\/(¬c.V r/\∃cap arr,vx=.slice (some ⟨c.ρ r,0*s,none⟩) es.l.length cap/\w.heap[c.ρ r]?=some (.cells arr jV (0,0))):=by
       rcases hv with⟨hV,a,hv,_⟩|⟨hV,cap,arr,hv,h1,h2,h3,h4⟩
       ·have:=(hm.nz q1 hV).2.1
        simp only at this
        exact .inl ⟨by rw[this];rfl,a,hv⟩
       ·exact .inr ⟨hV,cap,arr,by rw[Nat.zero_mul];exact hv,h3⟩
      obtain⟨v',w',c',p1,p2,p3,p4⟩:=core r 0 es.l.length _ jV es ((ys.take (min ys.len es.len)).app (es.drop (min ys.len es.len))) (by rw[ai.j8,ai.iY,ai.kq,ai.iv,ai.iv];simp) hr rfl (by omega) c w vx vy hm hR jK hy
      exact⟨v',w',c',p1,p2,p3,by rw[p4,ai.iv,ai.iv];rfl⟩
     ·exact h.elim
    case own r o n=>
     split at h
     ·rename_i jV s es hr
      simp only[dd,nk]at h
      have hs:=bE h.1
      subst hs
      refine⟨_,_,h.2,λc w vx vy hm hR hx hy=>?_⟩
      obtain⟨row,q1,q2,ho,hv⟩:=hx
      have c6:row=⟨false,jV,s,es⟩:=by rw[hR,hr]at q1;exact(Option.some.inj q1).symm
      subst c6
      have jK:(n=0/\∃a,vx=.slice a 0 0)\/(¬c.V r/\∃cap arr,vx=.slice (some ⟨c.ρ r,o*s,none⟩) n cap/\w.heap[c.ρ r]?=some (.cells arr jV (0,0))):=by
       rcases hv with⟨h0,a,hv,_⟩|⟨hV,cap,arr,h1,h2,h3,hv,h4⟩
       ·exact .inl ⟨h0,a,hv⟩
       ·exact .inr ⟨hV,cap,arr,hv,h3⟩
      obtain⟨v',w',c',p1,p2,p3,p4⟩:=core r o n _ jV es (((es.take o).app (ys.take (min ys.len n))).app (es.drop (o+min ys.len n))) (by rw[ai.j8,ai.j8,ai.iY,ai.iY,ai.kq,ai.iv]) hr rfl ho c w vx vy hm hR jK hy
      exact⟨v',w',c',p1,p2,p3,by rw[p4,ai.iv];rfl⟩
     ·exact h.elim
   ·exact h.elim
  ·exact h.elim
 ·exact h.elim
theorem Zqa{mx:Bool}{x y:D}(h:we mx x y K):∃val,K val/\∀(P:Program) c w vx vy,Rep c w x vx->Rep c w y vy->∃u,((mx=false->∀dj ty,(Builtin.min_ dj ty #[vx,vy]).run P w=.ok u w)/\(mx=true->∀dj ty,(Builtin.max_ dj ty #[vx,vy]).run P w=.ok u w))/\Rep c w val u:=by
 unfold we at h
 split at h
 ·rename_i k a k' b
  simp only[dd,decide_eq_true_eq]at h
  obtain⟨rfl,h⟩:=h
  refine⟨_,h,λP c w vx vy hx hy=>⟨_,⟨λe dj ty=>?_,λe dj ty=>?_⟩,rfl⟩⟩
  ·subst e
   rw[Rep.int.1 hx,Rep.int.1 hy]
   simp[Builtin.min_,Builtin.min2]
  ·subst e
   rw[Rep.int.1 hx,Rep.int.1 hy]
   simp[Builtin.max_,Builtin.max2]
 ·exact h.elim
theorem Zkk(hT:ji P T){t:TypeId}(h:KA T t es K):K (.mP es)/\∀c w vx vy,(∃a n cap,vx=.slice a n cap/\(a=none->es.l=[]))->Rep c w .c8 vy->∃u,(∀x y,(do eqGuard .eql t x y vx vy;binOp .eql t vx vy).run P w=.ok u w)/\Rep c w (.mP es) u:=by
 unfold KA at h
 split at h
 ·rename_i e n _ _ _ _ _ ht
  have hk:=mG hT ht
  simp only at hk
  refine⟨h,λc w vx vy hx hy=>?_⟩
  obtain⟨a,len,cap,hv,gu⟩:=hx
  rw[show vy=_ from hy,hv]
  refine⟨.bool a.isNone,λx y=>?_,a.isNone,rfl,λe'=>?_⟩
  ·have hg:(eqGuard .eql t x y (.slice a len cap) (.slice none 0 0)).run P w=.ok () w:=rfl
   rw[Sem.run_bind,hg]
   simp only[Result.andThen_ok,binOp]
   simp only[run_equal_slice_nil w t e a len cap hk.1,Sem.run_bind,Result.andThen_ok,Sem.run_pure]
  ·exact gu (by cases a<;>simp_all)
 ·exact h.elim
theorem xH(hT:ji P T){t:TypeId}(h:KA T t es K):K (.mP es)/\∀s fr c w vx vy,Rep c w (.sl s es fr) vx->Rep c w .c8 vy->∃u,(∀x y,(do eqGuard .eql t x y vx vy;binOp .eql t vx vy).run P w=.ok u w)/\Rep c w (.mP es) u:=by
 obtain⟨h1,h2⟩:=Zkk hT h
 refine⟨h1,λs fr c w vx vy hx hy=>h2 c w vx vy ?_ hy⟩
 obtain⟨a,cap,hv,hc,gu⟩:=hx
 refine⟨a,_,cap,hv,λha=>?_⟩
 rcases gu with gu|⟨b,off,arr,ty,fz,hb,_⟩
 ·exact gu
 ·rw[ha]at hb;cases hb
theorem ya(hT:ji P T){t:TypeId}{bx:Bool}{jV j9:Nat}(hR:R.getD r none=some ⟨bx,jV,j9,es⟩)(h:KA T t es K):K (.mP es)/\∀c w vx vy,Mem c w->mh c R->Rep c w (.all r) vx->Rep c w .c8 vy->∃u,(∀x y,(do eqGuard .eql t x y vx vy;binOp .eql t vx vy).run P w=.ok u w)/\Rep c w (.mP es) u:=by
 obtain⟨h1,h2⟩:=Zkk hT h
 refine⟨h1,λc w vx vy hm hA hx hy=>h2 c w vx vy ?_ hy⟩
 obtain⟨row,g1,g2,hv⟩:=hx
 have:=hA r row _ g1 hR
 subst this
 rcases hv with⟨hV,a,hv,_⟩|⟨hV,cap,arr,hv,_⟩
 ·exact⟨a,0,0,hv,λ_=>(hm.nz g1 hV).2.1⟩
 ·exact⟨_,_,cap,hv,λe=>by cases e⟩
theorem Zt1{l:List Int}(h:iq I w (ai.ints .u8 l).l news.toArray 0 1)(hl:news.length=(ai.ints .u8 l).l.length*1):news=l.map (Value.int .u8):=by
 have pD:news.length=l.length:=by simpa[ai.len]using hl
 apply List.ext_getElem?
 intro i
 by_cases hi:i<l.length
 ·obtain⟨h1,h2⟩:=tz.1 h i (by simpa[ai.len]using hi)
  rw[ai.nm _ (show i<(ai.ints .u8 l).len from hi)]at h2
  simp only[ai.get,DD,DE,Q5,sc,sd,se,si,sj,tB,ua,ub,uc,ud,ue,uf,ug,uh,Q9,and_true]at h2
  obtain⟨v,hv,hp⟩:=h2
  simp only[bG,Nat.mul_one,aB,bH]at hv
  rw[hv,hp]
  simp[aV,hi]
 ·rw[aJ (by omega),aJ (by simp;omega)]
theorem zH(hT:ji P T){s e d:TypeId}{n a1 a2:Nat}{a3:List sk}{a4:Option (List D)}{a5:Bool}(hs:T.get s=some ⟨.slice e n,a1,a2,a3,a4,a5⟩)(h:wg T e d x R K):
 ∃val,K val/\∀c w v,Mem c w->mh c R->Rep c w x v->Gg P (convert s d v) w c val:=by
 unfold wg at h
 split at h
 ·rename_i he hd
  have nh:=mG hT hs
  have rF:=mG hT he
  have KB:=mG hT hd
  simp only at nh rF KB
  split at h
  ·rename_i sy es jU
   split at h
   rotate_left
   ·exact h.elim
   rename_i l hto
   have Gh:=ai.toI_l hto
   simp only[dd,aT]at h
   obtain⟨h5,h⟩:=h
   have h5:sy=1\/es.l=[]:=h5.imp bE S3
   refine⟨_,h,λc w v hm hA hr=>?_⟩
   have hsl:∃a cap,v=.slice a es.l.length cap:=by
    cases x<;>simp only[sn]at jU<;>try(cases jU;done)
    case c8=>cases jU;exact⟨none,0,hr⟩
    case emp=>cases jU;obtain⟨a,hr,_⟩:=hr;exact⟨a,0,hr⟩
    case sl=>cases jU;obtain⟨a,cap,hv,_⟩:=hr;exact⟨a,cap,hv⟩
    case all r=>
     split at jU
     ·rename_i jV s' iW hR
      cases jU
      obtain⟨row,g1,g2,hv⟩:=hr
      have:=hA r row _ g1 hR
      subst this
      rcases hv with⟨hV,a,hv,_⟩|⟨hV,cap,arr,hv,_⟩
      ·have he:=(hm.nz g1 hV).2.1
       simp only at he
       exact⟨a,0,by rw[he];exact hv⟩
      ·exact⟨_,cap,hv⟩
     ·cases jU
    case own r o m=>
     split at jU
     ·rename_i jV s' iW hR
      cases jU
      obtain⟨row,g1,g2,g5,hv⟩:=hr
      have:=hA r row _ g1 hR
      subst this
      simp only at g5
      have hlen:((iW.drop o).take m).l.length=m:=by rw[ai.iY,ai.kq];simp only[aD,aG];omega
      rw[hlen]
      rcases hv with⟨h0,a,hv,_⟩|⟨hV,cap,arr,_,_,_,hv,_⟩
      ·subst h0;exact⟨a,0,hv⟩
      ·exact⟨_,cap,hv⟩
     ·cases jU
   obtain⟨a,cap,hv⟩:=hsl
   subst hv
   obtain⟨news,s1,s2,s3,s4⟩:=xab (P:=P) (by omega) jU h5 hm hA hr
   rw[Gh]at s1 s4
   have hn:=Zt1 s4 s1
   have hlen:es.l.length=l.length:=by rw[Gh];simp[ai.len]
   have hf:=s3 es.l.length (aX _) w rfl
   rw[List.take_of_length_le (by rw[hn,hlen];simp)]at hf
   refine⟨.string ⟨(bytesOf l).toArray⟩,?_,rfl⟩
   rw[run_convert_bytes_string w s d e a es.l.length cap nh.1 rF KB]
   cases a with
   |none=>
    simp only[Builtin.firstCells,Sem.run_pure,Result.ok.injEq,and_true]at hf
    have h1:news=[]:=by
     have:=congrArg Array.toList hf
     simpa using this.symm
    have he:l=[]:=by rw[h1]at hn;simpa using hn.symm
    subst he
    simp only[Conv.bytesToString,Sem.run_pure,bytesOf,List.map_nil]
    rfl
   |some a=>
    simp only[Builtin.firstCells,Nat.mul_one]at hf
    rw[hn]at hf
    rw[run_bytesToString w a es.l.length cap _ hf,foldl_push_bytes]
    have he0:ByteArray.empty.data= #[]:=rfl
    rw[he0]
    simp[bytesOf]
  ·exact h.elim
 ·exact h.elim
structure w6(c0:Ctx)(w0:World)(c:Ctx)(w:World):Prop where
 cz:Q4 c0 w0 c w
 fr:Fr (λb=>(∃r x,c0.R r=some x/\¬c0.V r/\c0.ρ r=b)\/c0.X b) w0 w
 fh:∀b,c.I b->c0.I b\/c0.X b\/w0.heap.size<=b
 oc:∀r row,c.R r=some row->¬c.V r->((∃x,c0.R r=some x)/\¬c0.V r/\c.ρ r=c0.ρ r)\/c0.X (c.ρ r)\/w0.heap.size<=c.ρ r
 xb:∀b,c0.X b->c0.base<=b
theorem w6.refl(c:Ctx)(w:World):w6 {c with X:=λ_=>False} w c w:=
 ⟨⟨rfl,aX _,λ_ h=>⟨h,rfl⟩,λ_ row h=>⟨row,h,rfl,rfl,rfl,rfl,rfl,Iff.rfl,λ_ arr h=>⟨arr,h,rfl⟩⟩⟩,Fr.refl _ w,λ_ h=>.inl h,λ_ row h v=>.inl ⟨⟨row,h⟩,v,rfl⟩,λ_ h=>h.elim⟩
theorem Zp7{c0 c:Ctx}(hM:∀k,da k ks=true->M<=k)(Eo:∀r row,c0.R r=some row->r<M)(h:Q4 c0 w0 c w):Q4 c0 w0 (c.kill ks) w:=by
 refine⟨h.base,h.top,h.I,λr row hr=>?_⟩
 obtain⟨ao,g1,g2,g3,g4,g5,g6,gV,g7⟩:=h.R r row hr
 obtain⟨s1,s2,s3,s4⟩:=wh ks ao
 have bd:=Eo r row hr
 refine⟨ao.kill ks,?_,s1.trans g2,s2.trans g3,s3.trans g4,s4.trans g5,g6,gV,g7⟩
 simp only[Ctx.kill]
 rw[if_neg (λe=>by have:=hM r e;omega),g1];rfl
theorem w6.step{c0 c c':Ctx}(hM:∀k,da k ks=true->M<=k)(Eo:∀r row,c0.R r=some row->r<M)(h:w6 c0 w0 c w)(n:jL ks c w c' w'):w6 c0 w0 c' w':=by
 have BH:∀s x,da s ks=true->c.R s=some x->¬c.V s->c0.X (c.ρ s)\/w0.heap.size<=c.ρ s:=λs x hs hx v'=>by
  rcases h.oc s x hx v' with⟨⟨y,hy⟩,_⟩|e'
  ·have:=Eo s y hy;have:=hM s hs;omega
  ·exact e'
 refine⟨(Zp7 hM Eo h.cz).trans n.cz,⟨n.fr.os.trans h.fr.os,n.fr.tape.trans h.fr.tape,n.fr.output.trans h.fr.output,bL h.fr.size n.fr.size,λb hb hx=>?_⟩,λb hb=>?_,λr row hr hv=>?_,h.xb⟩
 ·have bd:b<w.heap.size:=bM hb h.fr.size
  refine(n.fr.heap b bd fun⟨r,x,hr,v,e⟩=>?_).trans (h.fr.heap b hb hx)
  rcases h.oc r x hr v with⟨⟨y,hy⟩,v',e'⟩|e'|e'
  ·exact hx (.inl ⟨r,y,hy,v',by rw[<-e',e]⟩)
  ·exact hx (.inr (by rw[<-e];exact e'))
  ·omega
 ·rcases n.fh b hb with h1|⟨s,x,hs,hx,v',e⟩|h1
  ·exact h.fh b h1
  ·rcases BH s x hs hx v' with h1|h1
   ·exact .inr (.inl (by rw[<-e];exact h1))
   ·exact .inr (.inr (by omega))
  ·have:=h.fr.size;exact .inr (.inr (by omega))
 ·rcases n.oc r row hr hv with⟨⟨x,hx⟩,v',e⟩|⟨s,x,hs,hx,v',e⟩|e
  ·rcases h.oc r x hx v' with⟨h1,h2,e'⟩|e'|e'
   ·exact .inl ⟨h1,h2,e.trans e'⟩
   ·exact .inr (.inl (by rw[e];exact e'))
   ·exact .inr (.inr (by omega))
  ·rcases BH s x hs hx v' with h1|h1
   ·exact .inr (.inl (by rw[e];exact h1))
   ·exact .inr (.inr (by omega))
  ·have:=h.fr.size;exact .inr (.inr (by omega))
def lY(n:Nat)(w:World)(ds:List Deferred):Prop:=∃bs:List Nat,bs.Nodup/\ds=bs.map (λb=>({target:=.collected b,args:= #[]}:Deferred))/\∀b∈bs,n<=b/\w.heap[b]?=some (.deferred (some []))
theorem lY.nil:lY n w []:=⟨[],List.nodup_nil,rfl,λb hb=>by simp at hb⟩
theorem lY.to(h:lY n w ds)(hf:∀b:Nat,w.heap[b]?=some (Obj.deferred (some []))->w'.heap[b]?=some (Obj.deferred (some []))):lY n w' ds:=by
 obtain⟨bs,h1,h2,h3⟩:=h
 exact⟨bs,h1,h2,λb hb=>⟨(h3 b hb).1,hf b (h3 b hb).2⟩⟩
theorem lY.step{c:Ctx}(h:lY n w ds)(hm:Mem c w)(hf:Fr (λb=>∃r x,c.R r=some x/\¬c.V r/\c.ρ r=b) w w'):lY n w' ds:=by
 refine h.to λb h2=>(hf.heap b (Array.getElem?_eq_some_iff.1 h2).1 fun⟨r,x,hr,hV,e⟩=>?_).trans h2
 rcases hm.row r x hr with h3|⟨_,arr,h3,_⟩
 ·exact hV h3.1
 ·rw[e,h2]at h3;cases h3
theorem lY.put(h:lY n w a.defers):lY n w (a.put dst v).defers:=by
 cases dst<;>exact h
structure fj(N M:Nat)(c0:Ctx)(w0:World)(c:Ctx)(w:World)(st:St)(a:Act):Prop where
 mem:Mem c w
 rows:∀r,c.R r=st.rows.getD r none
 env:∀t,Rep c w (look st.env t) (a.tmps.getD t undef)
 size:N<=a.tmps.size
 defers:lY w0.heap.size w a.defers
 fy:c0.base<=w0.heap.size
 gw:∀r row,c0.R r=some row->r<M
 reach:w6 c0 w0 c w
theorem fj.base{c0:Ctx}{c:Ctx}(h:fj N M c0 w0 c w st a):c.base<=w.heap.size:=by
 rw[h.reach.cz.base];exact bL h.fy h.reach.fr.size
theorem Kw{c:Ctx}{env:List (Nat×D)}(f:Nat):Rep c w (cu env (.func f)) (a.eval (.func f)):=by
 simp only[cu,Act.eval]
 cases h:bN f YB with
 |false=>trivial
 |true=>exact⟨[],.inl ⟨lE h,rfl⟩,trivial⟩
theorem Nu{c:Ctx}{env:List (Nat×D)}(h:∀t,Rep c w (look env t) (a.tmps.getD t undef))(x:Operand):Rep c w (cu env x) (a.eval x):=by
 cases x with
 |tmp t=>exact h t
 |const v=>
  simp only[cu,Act.eval]
  cases hv:Gd v with
  |none=>trivial
  |some d=>exact Ns hv c w
 |global g=>trivial
 |func f=>exact Kw f
def r5(env:List (Nat×D))(dst:Option Tmp)(d:D):List (Nat×D):=match dst with|none=>env|some t=>(t,d)::env
theorem AR(env:List (Nat×D))(t:Nat)(d:D)(s:Nat):look ((t,d)::env) s=if t=s then d else look env s:=by
 simp only[look]
 cases hb:Nat.beq t s with
 |true=>rw[if_pos (bE hb)]
 |false=>rw[if_neg (λe=>by rw[e]at hb;simp at hb)]
theorem Zcu{c:Ctx}{env:List (Nat×D)}(hN:N<=a.tmps.size)(hd:∀t,dst=some t->t<N)(h:∀t,Rep c w (look env t) (a.tmps.getD t undef))(hv:Rep c w d v)(t:Nat):
 Rep c w (look (r5 env dst d) t) ((a.put dst v).tmps.getD t undef):=by
 cases dst with
 |none=>exact h t
 |some s=>
  have hs:=hd s rfl
  simp only[r5,Act.put,AR]
  by_cases e:s=t
  ·subst e
   rw[if_pos rfl]
   have bd:s<a.tmps.size:=bM hs hN
   simpa[aY,bd]using hv
  ·rw[if_neg e]
   have:=h t
   simpa[Array.getElem?_setIfInBounds_ne e]using this
def ju:List Operand->Nat
 |[]=>1
 |.tmp t::l=>t+1+ju l
 |_::l=>ju l
theorem WH:∀{l:List Operand},0<ju l
 |[]=>by simp[ju]
 |x::l=>by cases x<;>simp only[ju]<;>have:=WH (l:=l)<;>omega
theorem S4{t:Nat}:∀{l:List Operand},.tmp t∈l->t<ju l
 |x ::l,h=>by
  rcases List.mem_cons.1 h with e|e
  ·subst e;simp only[ju];omega
  ·have:=S4 e
   cases x<;>simp only[ju]<;>omega
def Gi(B:Nat):List iE->List (Nat×D)
 |[]=>[]
 |x::l=>(B,x.d)::Gi (B+1) l
theorem Nv{env:List (Nat×D)}:∀{cs:List iE} {B t:Nat},look (Gi B cs++env) t=if h:B<=t/\t-B<cs.length then(cs[t-B]'h.2).d else look env t
 |[],B,t=>by simp[Gi]
 |x ::l,B,t=>by
  simp only[Gi,List.cons_append,AR,Nv (cs:=l) (B:=B+1)]
  by_cases e:B=t
  ·subst e;simp
  ·rw[if_neg e]
   by_cases h:B+1<=t/\t-(B+1)<l.length
   ·rw[dif_pos h,dif_pos (by simp;omega)]
    have:t-B=(t-(B+1))+1:=by omega
    simp only[this,List.getElem_cons_succ]
   ·rw[dif_neg h,dif_neg (by simp;omega)]
def Qp(args:Array Operand)(n:Nat):Array Operand:=(args.toList++(bO (ju args.toList) n).map Operand.tmp).toArray
def tC(a:Act)(B:Nat)(us:List Value):Act:={tmps:=((List.range B).map (λi=>a.tmps.getD i undef)++us).toArray,defers:=[]}
theorem Zk9{t:Nat}(h:t<B):(tC a B us).tmps.getD t undef=a.tmps.getD t undef:=by
 simp[tC,aY,h,List.getElem_append]
 omega
theorem Zm:(tC a B us).tmps.getD (B+i) undef=us.getD i undef:=by
 simp only[tC,Array.getD_eq_getD_getElem?,bH]
 rw[bJ (by simp)]
 simp[aV]
theorem oH.length{c:Ctx}{w:World}:∀{cs:List iE} {us:List Value},oH c w cs us->us.length=cs.length
 |[],[],_=>rfl
 |_::_,_::_,h=>by simp[oH.length h.2]
 |[],_::_,h=>h.elim
 |_::_,[],h=>h.elim
theorem oH.get{c:Ctx}{w:World}:∀{cs:List iE} {us:List Value},oH c w cs us->∀i (h:i<cs.length),S5 c w (cs[i]'h) (us.getD i undef)
 |[],[],_,i,h=>by simp at h
 |_::_,_::_,h,0,_=>by simpa using h.1
 |_::_,_::_,h,i+1,hi=>by simpa using oH.get h.2 i (by simpa using hi)
 |[],_::_,h,_,_=>h.elim
 |_::_,[],h,_,_=>h.elim
theorem Zde{env:List (Nat×D)}:(Qp args cs.length).toList.map (cu (Gi (ju args.toList) cs++env))=args.toList.map (cu env)++cs.map iE.d:=by
 simp only[Qp,bP]
 congr 1
 ·refine bQ λx hx=>?_
  cases x with
  |tmp t=>simp only[cu,Nv];rw[dif_neg (by have:=S4 hx;omega)]
  |_=>rfl
 ·refine bR (by simp) λi h1 h2=>?_
  have:i<cs.length:=by simpa using h2
  simp only[bS,bT,cu,Nv]
  rw[dif_pos (by omega)]
  congr 1
  simp
theorem Z2w:(Qp args us.length).toList.map (tC a (ju args.toList) us).eval=args.toList.map a.eval++us:=by
 simp only[Qp,bP]
 congr 1
 ·refine bQ λx hx=>?_
  cases x with
  |tmp t=>exact Zk9 (S4 hx)
  |_=>rfl
 ·refine bR (by simp) λi h1 h2=>?_
  have:i<us.length:=h2
  simp only[bS,bT,Act.eval,Nat.one_mul]
  rw[Zm]
  simp[aV,this]
theorem BI{c:Ctx}{env:List (Nat×D)}(hl:∀x∈args.toList,Rep c w (cu env x) (a.eval x))(hc:oH c w cs us):∀x∈(Qp args cs.length).toList,Rep c w (cu (Gi (ju args.toList) cs++env) x) ((tC a (ju args.toList) us).eval x):=by
 intro x hx
 simp only[Qp,List.mem_append,List.mem_map]at hx
 rcases hx with hx|⟨t,ht,rfl⟩
 ·have:=hl x hx
  cases x with
  |tmp t=>
   have bd:=S4 hx
   simp only[cu,Nv,Act.eval]
   rw[dif_neg (by omega),Zk9 bd]
   exact this
  |_=>exact this
 ·rw[List.mem_range'_1]at ht
  obtain⟨i,hi,rfl⟩:∃i:Nat,i<cs.length/\t=ju args.toList+i:=⟨t-ju args.toList,Nat.sub_lt_left_of_lt_add ht.1 ht.2,(Nat.add_sub_cancel' ht.1).symm⟩
  have h2:=oH.get hc i hi
  have h3:look (Gi (ju args.toList) cs++env) (ju args.toList+i)=(cs[i]'hi).d:=by
   rw[Nv,dif_pos ⟨by omega,by omega⟩]
   congr 1
   simp
  simp only[cu,Act.eval]
  rw[h3,Zm]
  exact Rep.KC (VRep.Ep (WI.1 h2))
theorem zaC{f:FuncId}(he:∀args w,(callFunc f args).run P w=.ok (.enter f args) w){t:Tmp}{guard:Option (Nat×Bool)}
 (ht:a.eval (.tmp t)=.func (.func f) #[] us.toArray) {K:Act->World->Prop} {Q:Exit->Act->World->Prop}
 (h:(⟨some 0,.call ⟨.value (.func f),Qp args us.length,dj⟩,type,pos,after,guard⟩:Oper).nj P (tC a (ju args.toList) us) w (λa' w'=>K (a.put dst (a'.tmps.getD 0 undef)) w') (λ_ _ _=>False)):
 (⟨dst,.call ⟨.value (.tmp t),args,dj⟩,type,pos,after,guard⟩:Oper).nj P a w K Q:=by
 have hv:=Z2w (a:=a) (args:=args) (us:=us)
 have r1:(execOp (tC a (ju args.toList) us).eval (⟨some 0,.call ⟨.value (.func f),Qp args us.length,dj⟩,type,pos,after,guard⟩:Oper)).run P w=.ok (.enter f (args.toList.map a.eval++us).toArray) w:=by
  simp only[execOp,resolve,Act.eval,Deferred.ofValue,Sem.run_bind,Sem.run_pure,Result.andThen_ok,invoke,bU,Array.append_empty]
  rw[he,<-hv,<-bV,bW]
 have r2:(execOp a.eval (⟨dst,.call ⟨.value (.tmp t),args,dj⟩,type,pos,after,guard⟩:Oper)).run P w=.ok (.enter f (args.toList.map a.eval++us).toArray) w:=by
  simp only[execOp,resolve,ht,Deferred.ofValue,Sem.run_bind,Sem.run_pure,Result.andThen_ok,invoke,bU]
  rw[he]
  congr 2
  rw[<-List.append_toArray,<-bV,bW]
 have bd:0<(tC a (ju args.toList) us).tmps.size:=by have:=WH (l:=args.toList);simp[tC];omega
 unfold Oper.nj at h⊢
 rw[r1]at h
 rw[r2]
 refine Calls.mono h λe w' ⟨v,he,hp⟩=>⟨v,he,?_⟩
 have:((tC a (ju args.toList) us).put (some 0) v).tmps.getD 0 undef=v:=by
  simp only[Act.put]
  simp[aY,bd]
 simp only[this]at hp
 exact hp
theorem yH{t:Tmp}{guard:Option (Nat×Bool)}{l:Nat}{rec:Loop}
 (ht:a.eval (.tmp t)=.func (.yield l) #[] #[]) (hl:w.heap[l]?=some (.loop rec)) {K:Act->World->Prop} {Q:Exit->Act->World->Prop} (hs:(args.toList.map a.eval).length=rec.params.size)
 (h:RoundIn Fence.wide 0 P l rec.fn ((rec.params.zip (args.toList.map a.eval).toArray).foldl (λtmps (t,a)=>tmps.setIfInBounds t a) rec.tmps) rec.assign rec.body w λe w'=>∃v,e=.returned v/\K (a.put dst v) w'):
 (⟨dst,.call ⟨.value (.tmp t),args,dj⟩,type,pos,after,guard⟩:Oper).nj P a w K Q:=by
 have r2:(execOp a.eval (⟨dst,.call ⟨.value (.tmp t),args,dj⟩,type,pos,after,guard⟩:Oper)).run P w=.ok (.round l rec.fn ((rec.params.zip (args.toList.map a.eval).toArray).foldl (λtmps (t,a)=>tmps.setIfInBounds t a) rec.tmps) rec.assign rec.body) w:=by
  simp only[execOp,resolve,ht,Deferred.ofValue,Sem.run_bind,Sem.run_pure,Result.andThen_ok,invoke,bU]
  have hy:=run_yield (P:=P) (args:=(args.toList.map a.eval).toArray) hl (by simpa using hs)
  rw[<-hy,<-bV,bW]
 unfold Oper.nj
 rw[r2]
 exact h
section
variable {P:Program} {G:List bb} {M:Nat} {dst:Option Tmp} {f:FuncId} {t:Tmp} {args:Array Operand} {dj:Array TypeId} {type:TypeId} {pos':String} {after:Array Edge} {guard:Option (Nat×Bool)} {env:List (Nat×D)} {cs:List iE} {R:Rows}
theorem Nw{x:bb}(dy:bj P x)(hf:x.f=f)(hy:f<YB)(ht:look env t=.gm f cs)
 (h:BJ P ⟨some 0,.call ⟨.value (.func f),Qp args cs.length,dj⟩,type,pos',after,guard⟩ (cu (Gi (ju args.toList) cs++env)) R ks val R'):BJ P ⟨dst,.call ⟨.value (.tmp t),args,dj⟩,type,pos',after,guard⟩ (cu env) R ks val R':=by
 intro c w a hm hb hR ei K Q hK
 have h1:=ei (.tmp t) (by simp[Op.operands,Call.operands])
 simp only[cu,ht]at h1
 obtain⟨us,⟨_,hv⟩|⟨fx,_⟩,hc⟩:=h1
 rotate_left
 ·exact absurd hy (Nat.not_lt.2 fx)
 have hl:us.length=cs.length:=hc.length
 refine zaC (λaz w=>by rw[<-hf];exact dy.enters (by rw[hf];exact hy) az w) hv ?_
 rw[hl]
 refine h c w _ hm hb hR (λy hy=>?_) _ _ λv w' c' hn j6 hr=>?_
 ·have fv:∀x∈args.toList,Rep c w (cu env x) (a.eval x):=λy hy=>ei y (by simp[Op.operands,Call.operands];exact .inr (by simpa using hy))
  simp only[Op.operands,Call.operands]at hy
  rcases Array.mem_append.1 hy with hy|hy
  ·simp at hy;subst hy;exact Kw _
  ·exact BI fv hc y (by simpa using hy)
 ·have bd:0<(tC a (ju args.toList) us).tmps.size:=by have:=WH (l:=args.toList);simp[tC];omega
  have:((tC a (ju args.toList) us).put (some 0) v).tmps.getD 0 undef=v:=by
   simp only[Act.put]
   simp[aY,bd]
  show K (a.put dst (((tC a (ju args.toList) us).put (some 0) v).tmps.getD 0 undef)) w'
  rw[this]
  exact hK v w' c' hn j6 hr
theorem Zu0{K:D->Rows->Prop}(hG:jB P G)(lN:oX G f=none)(ht:look env t=.gm f cs)(h:KD G f (args.toList.map (cu env)++cs.map iE.d) R K):∃val R',K val R'/\BJ P ⟨dst,.call ⟨.value (.tmp t),args,dj⟩,type,pos',after,guard⟩ (cu env) R [] val R':=by
 rw[<-Zde]at h
 obtain⟨val,R',x,h1,h2,h3,_⟩:=WJ (dst:=some 0) (dj:=dj) (type:=type) (pos':=pos') (after:=after) (guard:=guard) hG lN h
 obtain⟨dy,hf⟩:=Gj hG h2
 have wj:x.gone=none:=by simpa[oX,h2]using lN
 exact⟨val,R',h1,Nw dy hf (by rw[<-hf];exact dy.real wj) ht h3.toK⟩
theorem qb{K:List Nat->D->Rows->Prop}(hG:jB P G)(r3:(bN f YB||Nat.beq args.size 1)=true)(lN:oX G f=some k)(ht:look env t=.gm f cs)(h:Ij G M f k (args.toList.map (cu env)++cs.map iE.d) R K):∃ks val R',K ks val R'/\(∀j,da j ks=true->M<=j)/\BJ P ⟨dst,.call ⟨.value (.tmp t),args,dj⟩,type,pos',after,guard⟩ (cu env) R ks val R':=by
 rw[<-Zde]at h
 by_cases hy:f<YB
 ·obtain⟨ks,val,R',x,h1,h2,h3,h4,h5⟩:=Zrb hG hy (dst:=some 0) (dj:=dj) (type:=type) (pos':=pos') (after:=after) (guard:=guard) lN h
  obtain⟨dy,hf⟩:=Gj hG h2
  exact⟨ks,val,R',h1,h4,Nw dy hf hy ht h5⟩
 ·obtain⟨ks,val,R',x,h1,h2,h3,h4,h5⟩:=WK hG lN h
  refine⟨ks,val,R',h1,h4,λc w a hm hb hR ei K' Q pW=>?_⟩
  have h1:=ei (.tmp t) (by simp[Op.operands,Call.operands])
  simp only[cu,ht]at h1
  obtain⟨us,⟨bd,_⟩|⟨fx,l,rec,hv,hI,hl,mQ⟩,hc⟩:=h1
  ·exact absurd bd hy
  have fv:∀x∈args.toList,Rep c w (cu env x) (a.eval x):=λy hy=>ei y (by simp[Op.operands,Call.operands];exact .inr (by simpa using hy))
  have hlen:us.length=cs.length:=hc.length
  have iX:(args.toList.map a.eval).length=1:=by
   rcases Bool.or_eq_true_iff.1 r3 with e|e
   ·exact absurd (lE e) hy
   ·simpa using bE e
  have ft:(args.toList.map a.eval).length=rec.params.size:=by
   obtain⟨_,_,y,_,hp,_,_,_,h1,_⟩:=mQ
   rw[hp,h1];exact iX
  exact yH hv hl ft ((h5 c w (tC a (ju args.toList) us).eval hm hb hR (λy hy=>BI fv hc y hy) (λv w'=>K' (a.put dst v) w') λv w' c'=>pW v w' c').2 (Nat.le_of_not_lt hy) l rec (args.toList.map a.eval) us (by rw[<-hlen,Z2w]) hI hl mQ iX)
end
def pE(P:Program)(G:List bb)(M:Nat)(o:Oper)(ev:Operand->D)(R:Rows)(ks:List Nat)(val:D)(R':Rows):Prop:=
 if r6 G o.op=true then(∀k,da k ks=true->M<=k)/\BJ P o ev R ks val R' else ks=[]/\pJ P o ev R val R'
theorem pE.toK(h:pE P G M o ev R ks val R'):(∀k,da k ks=true->M<=k)/\BJ P o ev R ks val R':=by
 unfold pE at h
 split at h
 ·exact h
 ·obtain⟨rfl,h⟩:=h
  exact⟨λk hk=>by simp[da]at hk,h.toW.toK⟩
theorem AS(hw:r6 G o.op=false)(h:pJ P o ev R val R'):pE P G M o ev R [] val R':=by
 unfold pE;rw[hw];exact⟨rfl,h⟩
theorem Z9(hw:r6 G o.op=true)(hk:∀k,da k ks=true->M<=k)(h:BJ P o ev R ks val R'):pE P G M o ev R ks val R':=by
 unfold pE;rw[if_pos hw];exact⟨hk,h⟩
def nC(P:Program)(G:List bb)(M:Nat)(ops:Array Oper)(o:Oper)(env:List (Nat×D))(R:Rows)(ks:List Nat)(val:D)(R':Rows):Prop:=
 match o.guard with
 |none=>pE P G M o (cu env) R ks val R'
 |some (j,want)=>∃g,(ops[j]?).bind (·.dst)=some g/\((∃b,look env g=.bool b/\(if b=want then pE P G M o (cu env) R ks val R' else ks=[]/\val=.dw []/\R'=R))\/(look env g=.dw []/\ks=[]/\val=.dw []/\R'=R))
theorem oI{K:St->Prop}(h:st.put N dst d R K):(∀t,dst=some t->t<N)/\K ⟨r5 st.env dst d,R⟩:=by
 cases dst with
 |none=>exact⟨λt h=>(by cases h),h⟩
 |some t=>
  simp only[St.put,dd]at h
  refine⟨λs hs=>?_,h.2⟩
  cases hs
  exact lE h.1
theorem zb(d:D):d.kill []=d:=by
 cases d with
 |agg cs=>show D.agg (D.jk [] cs)=_;rw[WL]
 |gm f cs=>exact WM (.gm f cs)
 |_=>rfl
theorem Zlz:∀{ds:List D},D.pK [] ds=ds
 |[]=>rfl
 |d::l=>by simp[D.pK,zb,Zlz (ds:=l)]
theorem yb(d:D):d.j0 []=d:=by
 cases d with
 |dw ds=>show D.dw (D.pK [] ds)=_;rw[Zlz]
 |agg cs=>exact zb (.agg cs)
 |gm f cs=>exact WM (.gm f cs)
 |_=>rfl
theorem oG{env:List (Nat×D)}{t:Nat}:look (r4 [] env) t=look env t:=by rw[BK,yb]
theorem Zrf(hT:ji P T)(hG:jB P G){K:St->Prop}(h:lO T G N M o st K):
 ∃ks val R' iH,(∀t,look iH t=look (r4 ks st.env) t)/\(∀t,o.dst=some t->t<N)/\K ⟨r5 iH o.dst val,R'⟩/\pE P G M o (cu st.env) st.rows ks val R':=by
 have plain:(r6 G o.op=Gk o.op)->(gr T o.op (cu st.env) st.rows λd R=>st.put N o.dst d R K)->∃ks val R' iH,(∀t,look iH t=look (r4 ks st.env) t)/\(∀t,o.dst=some t->t<N)/\K ⟨r5 iH o.dst val,R'⟩/\pE P G M o (cu st.env) st.rows ks val R':=by
  intro hw h
  obtain⟨val,R',hK,hO⟩:=Nx hT o _ _ _ h
  obtain⟨h1,h2⟩:=oI hK
  refine⟨[],_,_,st.env,λt=>oG.symm,h1,h2,?_⟩
  split at hO
  ·rename_i hs
   exact Z9 (hw.trans hs) (λk hk=>by simp[da]at hk) hO.toK
  ·rename_i hs
   exact AS (by rw[hw];simpa using hs) hO
 unfold lO at h
 split at h
 ·rename_i cc x y ho
  split at h
  ·rename_i b hb
   have hw:r6 G o.op=false:=by rw[ho];rfl
   have go:∀z,z∈o.op.operands->(∀c w (a:Act),Rep c w (cu st.env cc) (a.eval cc)->(execOp a.eval o).run P w=.ok (.value (a.eval z)) w)->(cu st.env z).force (λd=>st.put N o.dst d st.rows K)->
    ∃ks val R' iH,(∀t,look iH t=look (r4 ks st.env) t)/\(∀t,o.dst=some t->t<N)/\K ⟨r5 iH o.dst val,R'⟩/\pE P G M o (cu st.env) st.rows ks val R':=by
    intro z hz im h
    rw[D.c7]at h
    obtain⟨h1,h2⟩:=oI h
    exact⟨[],_,_,st.env,λt=>oG.symm,h1,h2,AS hw (mH λc w a hm hA ei=>⟨_,im c w a (ei cc (by rw[ho];simp[Op.operands])),ei z hz⟩)⟩
   cases b with
   |true=>
    refine go x (by rw[ho];simp[Op.operands]) (λc w a hc=>?_) h
    rw[hb]at hc
    simp only[execOp,ho,Rep.bool.1 hc,asBool,Sem.run_bind,Sem.run_pure,Result.andThen_ok,if_true]
   |false=>
    refine go y (by rw[ho];simp[Op.operands]) (λc w a hc=>?_) h
    rw[hb]at hc
    simp only[execOp,ho,Rep.bool.1 hc,asBool,Sem.run_bind,Sem.run_pure,Result.andThen_ok,aA,if_false]
  ·exact h.elim
 ·rename_i f args dj ho
  obtain⟨dst,op,type,pos,after,guard⟩:=o
  simp only at ho
  subst ho
  split at h
  ·rename_i lN
   split at h
   rotate_left
   ·rename_i Er
    obtain⟨ks,val,R',x,hK,hx,hM,hO⟩:=zU (dst:=dst) (type:=type) (pos':=pos) (after:=after) (guard:=guard) (dj:=dj) hG lN h
    rw[Ik]at hK
    obtain⟨h1,h2⟩:=oI hK
    refine⟨ks,_,_,_,λt=>rfl,h1,h2,Z9 ?_ hM hO⟩
    have Er:x.oZ=true:=by simpa[BL,hx]using Er
    cases pF:x.refs with
    |nil=>simp only[r6,hx,pF,Er]
    |cons b bs=>simp only[r6,hx,pF]
   rename_i Er
   have Il:∀x,oJ G f=some x->x.oZ=false:=λx hx=>by simpa[BL,hx]using Er
   obtain⟨val,R',x,hK,hx,hO,hN⟩:=WJ (dst:=dst) (type:=type) (pos':=pos) (after:=after) (guard:=guard) (dj:=dj) hG lN h
   obtain⟨h1,h2⟩:=oI hK
   refine⟨[],_,_,st.env,λt=>oG.symm,h1,h2,?_⟩
   cases hr:x.refs with
   |nil=>exact AS (by simp only[r6,hx,hr,Il x hx]) (hN hr)
   |cons b bs=>exact Z9 (by simp only[r6,hx,hr]) (λk hk=>by simp[da]at hk) hO.toK
  ·rename_i k lN
   obtain⟨hy,h⟩:=dd.1 h
   obtain⟨ks,val,R',x,hK,hx,hr,hM,hO⟩:=Zrb hG (lE hy) (dst:=dst) (type:=type) (pos':=pos) (after:=after) (guard:=guard) (dj:=dj) lN h
   rw[Ik]at hK
   obtain⟨h1,h2⟩:=oI hK
   refine⟨ks,_,_,_,λt=>rfl,h1,h2,Z9 ?_ hM hO⟩
   cases pF:x.refs with
   |nil=>exact(hr pF).elim
   |cons b bs=>simp only[r6,hx,pF]
 ·rename_i t args dj ho
  obtain⟨dst,op,type,pos,after,guard⟩:=o
  simp only at ho
  subst ho
  split at h
  ·rename_i f cs ht
   split at h
   ·rename_i lN
    split at h
    ·obtain⟨val,R',hK,hO⟩:=Zu0 (dst:=dst) (type:=type) (pos':=pos) (after:=after) (guard:=guard) (dj:=dj) hG lN ht h
     obtain⟨h1,h2⟩:=oI hK
     exact⟨[],_,_,st.env,λt=>oG.symm,h1,h2,Z9 rfl (λk hk=>by simp[da]at hk) hO⟩
    ·exact h.elim
   ·rename_i k lN
    obtain⟨r3,h⟩:=dd.1 h
    obtain⟨ks,val,R',hK,hM,hO⟩:=qb (dst:=dst) (type:=type) (pos':=pos) (after:=after) (guard:=guard) (dj:=dj) hG r3 lN ht h
    rw[Ik]at hK
    obtain⟨h1,h2⟩:=oI hK
    exact⟨ks,_,_,_,λt=>rfl,h1,h2,Z9 rfl hM hO⟩
  ·exact h.elim
 ·rename_i args dj ho
  obtain⟨dst,op,type,pos,after,guard⟩:=o
  simp only at ho
  subst ho
  split at h
  ·rename_i x y t tx hx ht
   have fv:args= #[x,y]:=by rw[<-bW (xs:=args),hx]
   have ui:dj= #[t,tx]:=by rw[<-bW (xs:=dj),ht]
   subst fv;subst ui
   obtain⟨ks,R',hK,hM,hr⟩:=Zrv (ty:=type) hT h
   rw[Ik]at hK
   obtain⟨h1,h2⟩:=oI hK
   refine⟨ks,_,_,_,λt=>rfl,h1,h2,Z9 rfl hM λc w a hm hb hR ei K' Q pW=>?_⟩
   obtain⟨v',w',c',im,hn,j6,hv⟩:=hr c w _ _ hm hb hR (ei x (by simp[Op.operands,Call.operands])) (ei y (by simp[Op.operands,Call.operands]))
   refine Gl ?_ (pW v' w' c' hn j6 hv)
   simp only[execOp,resolve,Sem.run_bind,Sem.run_pure,Result.andThen_ok,invoke,builtin]
   have:(#[x,y]:Array Operand).map a.eval= #[a.eval x,a.eval y]:=by simp
   rw[this,im];rfl
  ·exact h.elim
 ·rename_i args dj ho
  obtain⟨dst,op,type,pos,after,guard⟩:=o
  simp only at ho
  subst ho
  split at h
  ·rename_i x y t tx hx ht
   have fv:args= #[x,y]:=by rw[<-bW (xs:=args),hx]
   have ui:dj= #[t,tx]:=by rw[<-bW (xs:=dj),ht]
   subst fv;subst ui
   obtain⟨val,R',hK,hr⟩:=za (ty:=type) hT h
   obtain⟨h1,h2⟩:=oI hK
   refine⟨[],_,_,st.env,λt=>oG.symm,h1,h2,Z9 rfl (λk hk=>by simp[da]at hk) (Es.toK λc w a hm hb hR ei K' Q pW=>?_)⟩
   obtain⟨v',w',c',im,hn,j6,hv⟩:=hr c w _ _ hm hR (ei x (by simp[Op.operands,Call.operands])) (ei y (by simp[Op.operands,Call.operands]))
   refine Gl ?_ (pW v' w' c' hn j6 hv)
   simp only[execOp,resolve,Sem.run_bind,Sem.run_pure,Result.andThen_ok,invoke,builtin]
   have:(#[x,y]:Array Operand).map a.eval= #[a.eval x,a.eval y]:=by simp
   rw[this,im];rfl
  ·exact h.elim
 ·rename_i args dj ho
  split at h
  ·rename_i x y hx
   obtain⟨val,hK,hr⟩:=Zqa h
   obtain⟨h1,h2⟩:=oI hK
   refine⟨[],_,_,st.env,λt=>oG.symm,h1,h2,AS (by rw[ho];rfl) (mH λc w a hm hA ei=>?_)⟩
   have fv:args= #[x,y]:=by rw[<-bW (xs:=args),hx]
   subst fv
   obtain⟨u,hu,hv⟩:=hr P c w _ _ (ei x (by rw[ho];simp[Op.operands,Call.operands])) (ei y (by rw[ho];simp[Op.operands,Call.operands]))
   refine⟨u,?_,hv⟩
   simp only[execOp,ho,resolve,Sem.run_bind,Sem.run_pure,Result.andThen_ok,invoke,builtin]
   have:(#[x,y]:Array Operand).map a.eval= #[a.eval x,a.eval y]:=by simp
   rw[this]
   have hu:=hu.1 rfl dj o.type
   rw[hu];rfl
  ·exact h.elim
 ·rename_i args dj ho
  split at h
  ·rename_i x y hx
   obtain⟨val,hK,hr⟩:=Zqa h
   obtain⟨h1,h2⟩:=oI hK
   refine⟨[],_,_,st.env,λt=>oG.symm,h1,h2,AS (by rw[ho];rfl) (mH λc w a hm hA ei=>?_)⟩
   have fv:args= #[x,y]:=by rw[<-bW (xs:=args),hx]
   subst fv
   obtain⟨u,hu,hv⟩:=hr P c w _ _ (ei x (by rw[ho];simp[Op.operands,Call.operands])) (ei y (by rw[ho];simp[Op.operands,Call.operands]))
   refine⟨u,?_,hv⟩
   simp only[execOp,ho,resolve,Sem.run_bind,Sem.run_pure,Result.andThen_ok,invoke,builtin]
   have:(#[x,y]:Array Operand).map a.eval= #[a.eval x,a.eval y]:=by simp
   rw[this]
   have hu:=hu.2 rfl dj o.type
   rw[hu];rfl
  ·exact h.elim
 ·rename_i s d x ho
  split at h
  ·rename_i e _ _ _ _ _ _ hs
   obtain⟨val,hK,hr⟩:=zH hT hs h
   obtain⟨h1,h2⟩:=oI hK
   refine⟨[],_,_,st.env,λt=>oG.symm,h1,h2,AS (by rw[ho];rfl) (mH λc w a hm hA ei=>?_)⟩
   obtain⟨u,hu,hv⟩:=hr c w _ hm hA (ei x (by rw[ho];simp[Op.operands]))
   refine⟨u,?_,hv⟩
   simp only[execOp,ho]
   rw[Sem.run_bind,hu];rfl
  ·rw[<-ho]at h
   exact plain (by rw[ho];rfl) h
 ·rename_i op t x y ty ho
  split at h
  ·rename_i s es fr hx hy
   obtain⟨hK,hr⟩:=xH hT h
   obtain⟨h1,h2⟩:=oI hK
   refine⟨[],_,_,st.env,λt=>oG.symm,h1,h2,AS (by rw[ho];rfl) (mH λc w a hm hA ei=>?_)⟩
   have q1:=ei x (by rw[ho];simp[Op.operands])
   have q2:=ei y (by rw[ho];simp[Op.operands])
   rw[hx]at q1;rw[hy]at q2
   obtain⟨u,hu,hv⟩:=hr s fr c w _ _ q1 q2
   refine⟨u,?_,hv⟩
   simp only[execOp,ho]
   rw[Sem.run_bind,hu x y];rfl
  ·rename_i r hx hy
   split at h
   ·rename_i bx jV j9 es hR
    obtain⟨hK,hr⟩:=ya hT hR h
    obtain⟨h1,h2⟩:=oI hK
    refine⟨[],_,_,st.env,λt=>oG.symm,h1,h2,AS (by rw[ho];rfl) (mH λc w a hm hA ei=>?_)⟩
    have q1:=ei x (by rw[ho];simp[Op.operands])
    have q2:=ei y (by rw[ho];simp[Op.operands])
    rw[hx]at q1;rw[hy]at q2
    obtain⟨u,hu,hv⟩:=hr c w _ _ hm hA q1 q2
    refine⟨u,?_,hv⟩
    simp only[execOp,ho]
    rw[Sem.run_bind,hu x y];rfl
   ·exact h.elim
  ·rw[<-ho]at h
   exact plain (by rw[ho];rfl) h
 ·rename_i op n1 n2 n9 n3 n4 n5 n6 n7 n8
  refine plain ?_ h
  unfold r6
  split
  ·rename_i rH;rw[rH];rfl
  ·rename_i rH;exact(n2 _ _ _ rH).elim
  ·rename_i rH;exact(n9 _ _ _ rH).elim
  ·rename_i rH;exact(n3 _ _ rH).elim
  ·rename_i rH;exact(n4 _ _ rH).elim
  ·rename_i m1 m2 m5 m3 m4
   cases rH:o.op<;>first|rfl|exact(m1 _ _ _ rH).elim
theorem S6(h:look st.env g=.bool b)(t:Nat):look (st.jW (.tmp g) b).env t=look st.env t:=by
 simp only[St.jW,AR]
 split
 ·rename_i e;subst e;exact h.symm
 ·rfl
theorem Ztg{env mi:List (Nat×D)}(h:∀t,look mi t=look env t):cu mi=cu env:=by
 funext x;cases x<;>first|exact h _|rfl
theorem Wq(hT:ji P T)(hG:jB P G){l:List Oper}{K:St->Prop}(h:lW T G N M ops (o::l) st K):
 ∃ks val R' iH,(∀t,look iH t=look (r4 ks st.env) t)/\(∀t,o.dst=some t->t<N)/\nC P G M ops o st.env st.rows ks val R'/\lW T G N M ops l ⟨r5 iH o.dst val,R'⟩ K:=by
 simp only[lW]at h
 split at h
 ·rename_i hg
  obtain⟨ks,val,R',iH,h0,h1,h2,h3⟩:=Zrf hT hG h
  exact⟨ks,val,R',iH,h0,h1,by unfold nC;rw[hg];exact h3,h2⟩
 ·rename_i j want hg
  split at h
  ·rename_i g hd
   split at h
   ·rename_i b hb
    have yes:∀b',b'=b->lO T G N M o (st.jW (.tmp g) b') (λst=>lW T G N M ops l st K)->b=want->∃ks val R' iH,(∀t,look iH t=look (r4 ks st.env) t)/\(∀t,o.dst=some t->t<N)/\nC P G M ops o st.env st.rows ks val R'/\lW T G N M ops l ⟨r5 iH o.dst val,R'⟩ K:=by
     intro b' e hh hw
     subst e
     obtain⟨ks,val,R',iH,h0,h1,h2,h3⟩:=Zrf hT hG hh
     rw[Ztg (S6 hb)]at h3
     refine⟨ks,val,R',iH,λt=>by rw[h0,BK,BK,S6 hb],h1,?_,h2⟩
     unfold nC;rw[hg]
     exact⟨g,hd,.inl ⟨_,hb,by rw[if_pos hw];exact h3⟩⟩
    have no:∀b',b'=b->(st.jW (.tmp g) b').put N o.dst (.dw []) st.rows (λst=>lW T G N M ops l st K)->b≠want->∃ks val R' iH,(∀t,look iH t=look (r4 ks st.env) t)/\(∀t,o.dst=some t->t<N)/\nC P G M ops o st.env st.rows ks val R'/\lW T G N M ops l ⟨r5 iH o.dst val,R'⟩ K:=by
     intro b' e hh hw
     subst e
     obtain⟨h1,h2⟩:=oI hh
     refine⟨[],_,_,_,λt=>by rw[oG,S6 hb],h1,?_,h2⟩
     unfold nC;rw[hg]
     exact⟨g,hd,.inl ⟨_,hb,by rw[if_neg hw];exact⟨rfl,rfl,rfl⟩⟩⟩
    cases b<;>cases want<;>simp only[Ae]at h
    ·exact yes _ rfl h rfl
    ·exact no _ rfl h (by simp)
    ·exact no _ rfl h (by simp)
    ·exact yes _ rfl h rfl
   ·rename_i hb
    obtain⟨h1,h2⟩:=oI h
    refine⟨[],_,_,st.env,λt=>oG.symm,h1,?_,h2⟩
    unfold nC;rw[hg]
    exact⟨g,hd,.inr ⟨hb,rfl,rfl,rfl⟩⟩
   ·exact h.elim
  ·exact h.elim
theorem S1{c:Ctx}(hg:o.guard=some (j,want))(hd:(ops[j]?).bind (·.dst)=some g)(h:Rep c w (.dw []) (a.tmps.getD g undef)):
 Region.wanted o (yielded ops a.tmps)=false:=by
 obtain⟨vs,hv,BM⟩:=h
 have hy:yielded ops a.tmps j=none:=by
  simp only[yielded,hd,aW]
  cases hx:a.tmps[g]? with
  |none=>rfl
  |some v=>
   have:a.tmps.getD g undef=v:=by simp[hx]
   rw[this]at hv
   rw[hv]
 unfold Region.wanted
 rw[hg]
 simp only[hy]
 rfl
theorem S0(c:Ctx)(w:World):Rep c w (.dw []) undef:=⟨[],rfl,trivial⟩
theorem S2{c:Ctx}(hg:o.guard=some (j,want))(hd:(ops[j]?).bind (·.dst)=some g)(h:Rep c w (.bool b) (a.tmps.getD g undef)):
 Region.wanted o (yielded ops a.tmps)=decide (b=want):=by
 have hv:=Rep.bool.1 h
 have ht:a.tmps[g]?=some (.bool b):=by
  cases hx:a.tmps[g]? with
  |none=>simp[hx,undef]at hv
  |some v=>simp[hx]at hv;rw[hv]
 unfold Region.wanted
 simp only[hg,yielded,hd,aW,ht]
 cases b<;>cases want<;>rfl
def wpOp(P:Program)(ops:Array Oper)(Q:Exit->Act->World->Prop)(i:Nat)(K:Act->World->Prop)(a:Act)(w:World):Prop:=
 match ops[i]? with
 |none=>K a w
 |some o=>if Region.wanted o (yielded ops a.tmps)then o.nj P a w K Q else K (a.put o.dst undef) w
def KE(P:Program)(ops:Array Oper)(Q:Exit->Act->World->Prop):List Nat->Act->World->Prop
 |[],a,w=>Q .normal a w
 |i::rest,a,w=>wpOp P ops Q i (KE P ops Q rest) a w
theorem Zek(i:Nat)(rest:List Nat)(a:Act)(w:World):KE P ops Q (i::rest) a w=wpOp P ops Q i (KE P ops Q rest) a w:=rfl
def Ie(P:Program)(md:Region.Mode)(ops:Array Oper)(Q:Exit->Act->World->Prop):Nat->Array Bool->Act->World->Prop
 |0,ar,a,w=>Region.ready md ops ar=[]/\Q .normal a w
 |fuel+1,ar,a,w=>
  (Region.ready md ops ar=[]->Q .normal a w)/\
  ∀i∈Region.ready md ops ar,wpOp P ops Q i (Ie P md ops Q fuel (ar.setIfInBounds i true)) a w
abbrev AT(ro:Option Nat):Fence:={Fence.wide with round:=ro}
theorem yZ{P:Program}{ro:Option Nat}{o:Oper}{a:Act}{w:World}{K:Act->World->Prop}{Q Q':Exit->Act->World->Prop}(h:o.nj P a w K Q):o.wpIn (AT ro) 0 P a w K Q':=by
 refine⟨λ_ _=>trivial,?_⟩
 have hd:∀c,o.op≠.defer c:=by
  intro c hc
  unfold Oper.nj at h
  simp only[execOp,hc,Sem.run_bind]at h
  revert h
  cases(resolve a.eval c o.type).run P w with
  |halt _ _=>exactλh=>h
  |ok d w'=>exactλh=>h
 rw[Oper.semAt_eq _ _ _ hd]
 unfold Oper.nj at h
 revert h
 generalize(execOp a.eval o).run P w=r
 intro h
 cases r with
 |halt _ _=>exact h.elim
 |ok n w'=>
  cases n with
  |value v=>exact h
  |skip=>exact h
  |enter f args=>
   refine⟨λe=>(by cases e),?_⟩
   refine CallsIn.mono (F:=Fence.wide) (callsIn_wide.2 h) λe w' ⟨v,he,hk⟩=>?_
   subst he;exact hk
  |round l f tmps assign body=>
   refine⟨λe=>(by cases e),?_⟩
   refine RoundIn.mono (F:=Fence.wide) h λe w' ⟨v,he,hk⟩=>?_
   subst he;exact hk
  |_=>exact h.elim
theorem S7{P:Program}{ro:Option Nat}{ops:Array Oper}{Q:Exit->Act->World->Prop}:∀{l:List Nat} {a:Act} {w:World},KE P ops Q l a w->wpOpsIn (AT ro) 0 P ops Q l a w
 |[],_,_,h=>h
 |i ::l,a,w,h=>by
  rw[Zek]at h
  unfold wpOp at h
  unfold wpOpsIn
  split
  ·rename_i ho;simp only[ho]at h;exact S7 h
  ·rename_i o ho
   simp only[ho]at h
   split
   ·rename_i hw;rw[if_pos hw]at h;exact yZ (Q:=Q) (WN (Q':=Q) (λa w h=>S7 h) h)
   ·rename_i hw;rw[if_neg hw]at h;exact⟨λ_ _=>trivial,S7 h⟩
theorem S8{P:Program}{ro:Option Nat}{md:Region.Mode}{ops:Array Oper}{Q:Exit->Act->World->Prop}:∀{n:Nat} {ar:Array Bool} {a:Act} {w:World},Ie P md ops Q n ar a w->wpAnyIn (AT ro) 0 P md ops Q n ar a w
 |0,_,_,_,h=>h
 |n +1,ar,a,w,h=>by
  refine⟨h.1,λi hi=>?_⟩
  have h:=h.2 i hi
  unfold wpOp at h
  unfold wpOpIn
  split
  ·rename_i ho;simp only[ho]at h;exact S8 h
  ·rename_i o ho
   simp only[ho]at h
   split
   ·rename_i hw;rw[if_pos hw]at h;exact yZ (Q:=Q) (WN (Q':=Q) (λa w h=>S8 h) h)
   ·rename_i hw;rw[if_neg hw]at h;exact⟨λ_ _=>trivial,S8 h⟩
theorem Zmw(h:KE P ops Q (List.range ops.size) a w):(Code.region id ops false).wpIn (AT ro) 0 P Q a w:=wpIn_region (S7 h)
theorem Qym(hm:P.follows .mixedOrders=true)
 (h:Ie P .any ops Q ops.size (Array.replicate ops.size false) a {w with drawn:=w.drawn+1}):(Code.region id ops true).wpIn (AT ro) 0 P Q a w:=wpIn_region_any hm (S8 h)
theorem vZ{c0:Ctx}{c:Ctx}{iH:List (Nat×D)}(hi:ops[i]?=some o)
 (hs:fj N M c0 w0 c w st a) (h1:∀t,look iH t=look (r4 ks st.env) t) (hd:∀t,o.dst=some t->t<N) (hG:nC P G M ops o st.env st.rows ks val R') {K:Act->World->Prop} {Q:Exit->Act->World->Prop}
 (hK:∀a' w' c',fj N M c0 w0 c' w' ⟨r5 iH o.dst val,R'⟩ a'->K a' w'):wpOp P ops Q i K a w:=by
 have fin:(∀k,da k ks=true->M<=k)->∀(v:Value) (w':World) (c':Ctx),jL ks c w c' w'->(∀r,c'.R r=R'.getD r none)->Rep c' w' val v->K (a.put o.dst v) w':=λhM v w' c' hn hR hv=>by
  refine hK _ _ c' ⟨hn.mem,hR,?_,?_,?_,hs.fy,hs.gw,hs.reach.step hM hs.gw hn⟩
  ·exact Zcu hs.size hd (λt=>by rw[h1,BK];exact w7 hn.cz (WO (hs.env t))) hv
  ·cases ho:o.dst<;>simp[Act.put]<;>exact hs.size
  ·exact lY.put (hs.defers.step hs.mem hn.fr)
 have run:pE P G M o (cu st.env) st.rows ks val R'->o.nj P a w K Q:=λhX=>hX.toK.2 c w a hs.mem hs.base hs.rows (λx _=>Nu hs.env x) K Q (fin hX.toK.1)
 have skip:ks=[]->val=.dw []->R'=st.rows->K (a.put o.dst undef) w:=λe0 e1 e2=>by
  refine hK _ _ c ⟨hs.mem,by rw[e2];exact hs.rows,?_,?_,?_,hs.fy,hs.gw,hs.reach⟩
  ·exact Zcu hs.size hd (λt=>by rw[h1,e0,oG];exact hs.env t) (by rw[e1];exact S0 _ _)
  ·cases ho:o.dst<;>simp[Act.put]<;>exact hs.size
  ·exact lY.put hs.defers
 unfold wpOp
 simp only[hi]
 unfold nC at hG
 cases hg:o.guard with
 |none=>
  simp only[hg]at hG
  have hw:Region.wanted o (yielded ops a.tmps)=true:=by simp[Region.wanted,hg]
  rw[if_pos hw]
  exact run hG
 |some jw=>
  obtain⟨j,want⟩:=jw
  simp only[hg]at hG
  obtain⟨g,h2,⟨b,h3,h4⟩|⟨h3,e0,e1,e2⟩⟩:=hG
  rotate_left
  ·have hr:=hs.env g
   rw[h3]at hr
   rw[if_neg (by rw[S1 (o:=o) hg h2 hr];simp)]
   exact skip e0 e1 e2
  have hr:=hs.env g
  rw[h3]at hr
  have hw:=S2 (o:=o) hg h2 hr
  by_cases e:b=want
  ·rw[if_pos e]at h4
   rw[if_pos (by rw[hw];simpa using e)]
   exact run h4
  ·rw[if_neg e]at h4
   rw[if_neg (by rw[hw];simpa using e)]
   exact skip h4.1 h4.2.1 h4.2.2
theorem y0{P:Program}{T:iy}(hT:ji P T){G:List bb}(hG:jB P G){N M:Nat}{ops:Array Oper}{c0:Ctx}{w0:World}{K:St->Prop}{Q:Exit->Act->World->Prop}(hQ:∀st c w a,K st->fj N M c0 w0 c w st a->Q .normal a w):
 ∀(l:List Oper) (k:Nat) (st:St) (c:Ctx) (w:World) (a:Act),ops.toList.drop k=l->lW T G N M ops l st K->fj N M c0 w0 c w st a->KE P ops Q (bO k l.length) a w
 |[],k,st,c,w,a,_,h,hs=>hQ st c w a h hs
 |o ::l,k,st,c,w,a,hk,h,hs=>by
  have bd:k<ops.toList.length:=by
   by_cases bd:k<ops.toList.length
   ·exact bd
   ·rw[List.drop_eq_nil_of_le (by omega)]at hk;cases hk
  rw[List.drop_eq_getElem_cons bd]at hk
  have ho:ops[k]?=some o:=by
   have:=(List.cons.inj hk).1
   rw[<-this]
   simp at bd
   simp[bd]
  obtain⟨ks,val,R',iH,h1,h2,h3,h4⟩:=Wq hT hG h
  simp only[List.length_cons,List.range'_succ]
  rw[Zek]
  exact vZ ho hs h1 h2 h3 λa' w' c' iT=>y0 hT hG hQ l (k+1) _ c' w' a' (List.cons.inj hk).2 h4 iT
def mO:Exit->Option Ex
 |.normal=>some .normal
 |.exit i=>some (.exit i)
 |.ret=>some .ret
 |_=>none
def tW(ro:Option Nat)(P:Program)(N M:Nat)(code:Code)(st:St)(Q:Ex->St->Prop):Prop:=
 ∀ (c0:Ctx) (w0:World) (c:Ctx) (w:World) (a:Act),fj N M c0 w0 c w st a->
  code.wpIn (AT ro) 0 P (λe a' w'=>∃ex jq c',mO e=some ex/\Q ex jq/\fj N M c0 w0 c' w' jq a') a w
abbrev Tr:=tW none
def Ctx.oZ(c:Ctx)(R:Rows)(ks:List Nat):Ctx:=
 {c with R:=λr=>if da r ks=true then none else(c.R r).map (Row.mj R ks),I:=λb=>c.I b\/∃r row,da r ks=true/\c.R r=some row/\¬c.V r/\c.ρ r=b}
section
variable {c:Ctx} {w:World} {R:Rows} {ks:List Nat}
theorem Zm2(R:Rows)(ks:List Nat)(row:Row):(row.mj R ks).box=row.box/\(row.mj R ks).ty=row.ty/\(row.mj R ks).sz=row.sz/\(row.mj R ks).es.l.length=row.es.l.length:=by
 unfold Row.mj;split<;>exact⟨rfl,rfl,rfl,rfl⟩
theorem Z5w:∀{e:List D},(D.so R ks e).length=e.length
 |[]=>rfl
 |d::l=>by simp[D.so,Z5w (e:=l)]
theorem Zm8:Q4 (c.kill ks) w (c.oZ R ks) w:=by
 refine⟨rfl,aX _,λb h=>⟨.inl h,rfl⟩,λr x hx=>?_⟩
 obtain⟨h1,row,h2,rfl⟩:=ng hx
 obtain⟨s1,s2,s3,s4⟩:=Zm2 R ks row
 obtain⟨k1,k2,k3,k4⟩:=wh ks row
 refine⟨row.mj R ks,?_,s1.trans k1.symm,s2.trans k2.symm,s3.trans k3.symm,s4.trans k4.symm,rfl,Iff.rfl,λ_ arr h=>⟨arr,h,rfl⟩⟩
 show(if da r ks=true then none else(c.R r).map (Row.mj R ks))=_
 rw[h1,h2];rfl
theorem Z3s:∀{ds:List D} {arr:Array Value} {off:Nat},ds.all D.plain=true->kG c w ds arr off->oK c.I w ds arr off
 |[],_,_,_,_=>DD.2 trivial
 |d::ds,arr,off,hp,⟨⟨v,hv,h1⟩,h2⟩=>by
  rw[List.all_cons,aE]at hp
  exact DE.2 ⟨⟨v,hv,dc.plain hp.1 h1⟩,Z3s hp.2 h2⟩
variable (hm:Mem c w) (hA:∀r,c.R r=R.getD r none)
include hm hA
theorem WQ(h:dc c w d v):dc (c.oZ R ks) w (d.BN R ks) v:=by
 have Im:∀{d:D},dc c w d v->dc (c.oZ R ks) w (d.fe ks) v:=λh=>S9 Zm8 (Ta h)
 cases d with
 |all r=>
  simp only[D.BN]
  cases hb:da r ks with
  |false=>
   have:=Im h
   simpa only[D.fe,hb]using this
  |true=>
   obtain⟨row,g1,g2,hv⟩:=h
   have hr:R.getD r none=some row:=by rw[<-hA r];exact g1
   obtain⟨box,ty,sz,es⟩:=row
   simp only at g2
   subst g2
   simp only[hr]
   rcases hv with⟨hV,a,hv,_⟩|⟨hV,cap,arr,hv,g3,g4,g5,g6⟩
   ·have he:=(hm.nz g1 hV).2.1
    simp only at he
    exact⟨a,0,by rw[he];exact hv,by rw[he];exact aX _,.inl he⟩
   ·obtain⟨iK,jC,hs,hx⟩:=hm.real g1 hV
    simp only at g5 jC hx
    rw[g5]at jC;cases jC
    simp only[aA,if_false]at hx
    exact⟨_,cap,hv,g3,.inr ⟨_,0,arr,_,_,rfl,.inr ⟨r,_,hb,g1,hV,rfl⟩,by simp,g5,nB (λb hb=>⟨.inl hb,rfl⟩) _ _ _ _ hx⟩⟩
 |ptr r i off=>
  simp only[D.BN]
  cases hb:da r ks with
  |false=>
   have:=Im h
   simpa only[D.fe,hb]using this
  |true=>
   obtain⟨row,g1,g2,g3,hv⟩:=h
   have hr:R.getD r none=some row:=by rw[<-hA r];exact g1
   simp only
   split
   ·rename_i ty sz e he
    rw[he]at hr;cases hr
    split
    ·rename_i hp
     obtain⟨arr,ha,hs,hx⟩:=hm.real g1 g2
     simp only[if_true]at hx
     obtain⟨e',k1,k2,k3,k4⟩:=hx
     have k1:[e]=[e']:=by injection k1
     have k1:e=e':=(List.cons.inj k1).1
     subst k1
     refine⟨c.ρ r,0,arr,ty,(0,0),?_,.inr ⟨r,_,hb,g1,g2,rfl⟩,g3,ha,pL.2 ⟨k2,Zny (λb hb=>⟨.inl hb,rfl⟩) _ _ _ (Z3s hp k4),pX.2 trivial⟩⟩
     rw[hv];simp
    ·rw[hv];rfl
   ·rw[hv];rfl
 |_=>exact Im h
theorem Zr3:∀{ds:List D} {vs:List Value},jm c w ds vs->jm (c.oZ R ks) w (D.so R ks ds) vs
 |[],[],_=>trivial
 |_::_,_::_,h=>⟨WQ hm hA h.1,Zr3 h.2⟩
 |[],_::_,h=>h.elim
 |_::_,[],h=>h.elim
theorem Zr7(h:VRep c w d v):VRep (c.oZ R ks) w (d.Io R ks) v:=by
 cases d with
 |agg cs=>obtain⟨vs,hv,hr⟩:=h;exact⟨vs,hv,Zr3 hm hA hr⟩
 |_=>
  have:=WQ (ks:=ks) hm hA (VRep.toC (λcs e=>by cases e) h)
  exact VRep.Ep this
theorem Zra:∀{ds:List D} {vs:List Value},kj c w ds vs->kj (c.oZ R ks) w (D.Ip R ks ds) vs
 |[],[],_=>trivial
 |_::_,_::_,h=>⟨Zr7 hm hA h.1,Zra h.2⟩
 |[],_::_,h=>h.elim
 |_::_,[],h=>h.elim
theorem vH(h:Rep c w d v):Rep (c.oZ R ks) w (d.BO R ks) v:=by
 cases d with
 |dw ds=>obtain⟨vs,hv,hr⟩:=h;exact⟨vs,hv,Zra hm hA hr⟩
 |dead=>trivial
 |_=>
  have:=Zr7 (ks:=ks) hm hA (Rep.toV (λds e=>by cases e) (λe=>by cases e) h)
  exact Rep.KC this
theorem Zkx:∀{ds:List D} {arr:Array Value} {off:Nat},kG c w ds arr off->kG (c.oZ R ks) w (D.so R ks ds) arr off
 |[],_,_,_=>trivial
 |_::_,_,_,⟨⟨v,hv,h1⟩,h2⟩=>⟨⟨v,hv,WQ hm hA h1⟩,Zkx h2⟩
theorem qaf(h:Et c w r row):Et (c.oZ R ks) w r (row.mj R ks):=by
 obtain⟨s1,s2,s3,s4⟩:=Zm2 R ks row
 rcases h with⟨h0,h1,h2,h3⟩|⟨h0,arr,ha,hs,hx⟩
 ·refine .inl ⟨h0,s1.trans h1,?_,by rw[s3];exact h3⟩
  rw[h2]at s4;exact List.eq_nil_of_length_eq_zero s4
 ·refine .inr ⟨h0,arr,by rw[s2];exact ha,by rw[s3];exact hs,?_⟩
  rw[s1,s3]
  split
  ·rename_i hb
   simp only[hb,if_true]at hx
   obtain⟨e,k1,k2,k3,k4⟩:=hx
   obtain⟨box,ty,sz,es⟩:=row
   simp only at hb k1 k2 k3 k4
   subst hb;subst k1
   exact⟨D.so R ks e,rfl,by rw[Z5w];exact k2,k3,Zkx hm hA k4⟩
  ·rename_i hb
   simp only[hb,aA,if_false]at hx
   have he:(row.mj R ks).es=row.es:=by
    unfold Row.mj
    split
    ·simp at hb
    ·rfl
   rw[he];exact nB (λb hb=>⟨.inl hb,rfl⟩) _ _ _ _ hx
omit hm hA in
theorem KF{x:Row}(h:(c.oZ R ks).R r=some x):da r ks=false/\∃row,c.R r=some row/\x=row.mj R ks:=by
 simp only[Ctx.oZ]at h
 cases hb:da r ks with
 |true=>rw[hb]at h;simp at h
 |false=>
  rw[hb]at h
  simp only[aA,if_false,Option.map_eq_some_iff]at h
  obtain⟨row,h1,h2⟩:=h
  exact⟨rfl,row,h1,h2.symm⟩
theorem zaf:Mem (c.oZ R ks) w:=by
 refine⟨λr x hx=>?_,λr s x y hx hy v1 v2 he=>?_,λb hb=>?_,hm.top,hm.jY.mono λb hb=>⟨.inl hb,rfl⟩⟩
 ·obtain⟨_,row,h1,rfl⟩:=KF hx
  exact qaf hm hA (hm.row r row h1)
 ·obtain⟨_,row,h1,_⟩:=KF hx
  obtain⟨_,ao,h2,_⟩:=KF hy
  exact hm.inj r s row ao h1 h2 v1 v2 he
 ·rcases hb with hb|⟨s,row,h1,h2,h3,rfl⟩
  ·refine⟨(hm.fh b hb).1,λr x hx v=>?_⟩
   obtain⟨_,row,h1,_⟩:=KF hx
   exact(hm.fh b hb).2 r row h1 v
  ·refine⟨hm.lt h2 h3,λr x hx v e=>?_⟩
   obtain⟨h4,ao,h5,_⟩:=KF hx
   have:=hm.inj r s ao row h5 h2 v h3 e
   rw[this,h1]at h4;cases h4
end
theorem Zdk{R0:Rows}{ks:List Nat}:∀{R:Rows} {i r:Nat},(KG R0 ks R i).getD r none=if da (i+r) ks=true then none else(R.getD r none).map (Row.mj R0 ks)
 |[],i,r=>by simp[KG]
 |x::l,i,0=>by
  simp only[KG,aB]
  cases da i ks<;>cases x<;>simp
 |x::l,i,r+1=>by
  have:=Zdk (R0:=R0) (ks:=ks) (R:=l) (i:=i+1) (r:=r)
  rw[show i+1+r=i+(r+1) by omega]at this
  simpa[KG]using this
def uj(R:Rows)(ks:List Nat)(env:List (Nat×D)):List (Nat×D):=env.map λx=>(x.1,x.2.BO R ks)
theorem Zr{R:Rows}{ks:List Nat}:∀{env:List (Nat×D)} {K:List (Nat×D)->Prop},Eu R ks env K↔K (uj R ks env)
 |[],_=>Iff.rfl
 |(t,d)::l,K=>by
  simp only[Eu,D.c7]
  rw[Zr (env:=l) (K:=λl=>K ((t,d.BO R ks)::l))]
  rfl
theorem Zrm{R:Rows}{ks:List Nat}:∀{env:List (Nat×D)} {t:Nat},look (uj R ks env) t=(look env t).BO R ks
 |[],_=>rfl
 |(u,d)::l,t=>by
  simp only[uj,List.map_cons,look]
  split
  ·rfl
  ·exact Zrm (env:=l)
theorem WR{M:Nat}{R:Rows}:∀{l:List Nat} {r:Nat},r∈uk M R l->M<=r
 |x ::l,r,h=>by
  simp only[uk]at h
  split at h
  ·rename_i hb
   rcases List.mem_cons.1 h with e|h
   ·rw[e];rw[aE]at hb;exact lE hb.1
   ·exact WR h
  ·exact WR h
theorem xaf{c0:Ctx}{c:Ctx}{K:St->Prop}(h:Iq T G M ops st K)(hs:fj N M c0 w0 c w st a):∃jq c',K jq/\fj N M c0 w0 c' w jq a:=by
 unfold Iq at h
 split at h
 ·exact⟨st,c,h,hs⟩
 ·rename_i ks hk
  have hM:∀k,da k (uk M st.rows (Tb T G st.env st.rows [] [] ops.toList))=true->M<=k:=λk hk=>WR (nO.1 hk)
  generalize uk M st.rows (Tb T G st.env st.rows [] [] ops.toList)=ks at*
  rw[Zr,nk]at h
  have hm:=zaf (ks:=ks) hs.mem hs.rows
  refine⟨_,c.oZ st.rows ks,h,hm,λr=>?_,λt=>?_,hs.size,hs.defers,hs.fy,hs.gw,hs.reach.step (ks:=ks) hM hs.gw ⟨hm,Zm8,Fr.refl _ w,λb hb=>?_,λr ao hr hv=>?_⟩⟩
  ·rw[Zdk,bG,<-hs.rows r];rfl
  ·rw[Zrm];exact vH hs.mem hs.rows (hs.env t)
  ·rcases hb with hb|hb
   ·exact .inl hb
   ·exact .inr (.inl hb)
  ·obtain⟨_,row,h1,_⟩:=KF hr
   exact .inl ⟨⟨row,h1⟩,hv,rfl⟩
theorem vb{c:Ctx}(hm:Mem c w){e e':List D}(hr:c.R r=some ⟨true,ty,sz,.gen [e]⟩)(hl:e'.length=e.length)(hc:∀arr,kG c w e arr 0->kG c w e' arr 0):Q4 c w (c.jT r ⟨true,ty,sz,.gen [e']⟩) w/\Mem (c.jT r ⟨true,ty,sz,.gen [e']⟩) w:=by
 have hg:Q4 c w (c.jT r ⟨true,ty,sz,.gen [e']⟩) w:=by
  refine⟨rfl,aX _,λb hb=>⟨hb,rfl⟩,λs x hs=>?_⟩
  by_cases e:s=r
  ·subst e
   rw[hr]at hs;cases hs
   exact⟨⟨true,ty,sz,.gen [e']⟩,by simp[Ctx.jT],rfl,rfl,rfl,rfl,rfl,Iff.rfl,λ_ a ha=>⟨a,ha,rfl⟩⟩
  ·exact⟨x,by simp[Ctx.jT,e,hs],rfl,rfl,rfl,rfl,rfl,Iff.rfl,λ_ a ha=>⟨a,ha,rfl⟩⟩
 have jD:∀s x,(c.jT r ⟨true,ty,sz,.gen [e']⟩).R s=some x->∃x',c.R s=some x':=λs x hs=>by
  by_cases e:s=r
  ·exact⟨_,by rw[e];exact hr⟩
  ·exact⟨x,by simpa[Ctx.jT,e]using hs⟩
 refine⟨hg,λs x hs=>?_,λs q x y hs hq v1 v2 he=>?_,λb ij=>⟨(hm.fh b ij).1,λs x hs hv=>?_⟩,hm.top,hm.jY⟩
 ·by_cases es:s=r
  ·subst es
   simp only[Ctx.jT,if_true,Option.some.injEq]at hs
   subst hs
   rcases hm.row _ _ hr with⟨g0,g1,g2,g3⟩|⟨g0,arr,g1,g2,g3⟩
   ·cases g1
   ·refine .inr ⟨g0,arr,g1,g2,?_⟩
    simp only[if_true]at g3⊢
    obtain⟨e0,q1,q2,q3,q4⟩:=g3
    cases q1
    exact⟨e',rfl,hl.trans q2,q3,Ny hg (hc arr q4)⟩
  ·have iT:c.R s=some x:=by simpa[Ctx.jT,es]using hs
   exact tw hg rfl Iff.rfl (λ_=>rfl) (hm.row s x iT)
 ·obtain⟨x',jK⟩:=jD s x hs
  obtain⟨y',Ac⟩:=jD q y hq
  exact hm.inj s q x' y' jK Ac v1 v2 he
 ·obtain⟨x',jK⟩:=jD s x hs
  exact(hm.fh b ij).2 s x' jK hv
theorem qc(h:um T R i=some (ty,sz,e,n)):0<n/\∃d,R.getD i none=some ⟨true,ty,sz,.gen [[d]]⟩/\(d=.c8\/d=.emp):=by
 unfold um at h
 split at h
 ·rename_i jV j9 d hr
  have go:∀{x:Option (TypeId×Nat×TypeId×Nat)},x=some (ty,sz,e,n)->(x=match T.get jV with|some ⟨.slice e n,_,_,_,_,_⟩=>(match bN 0 n with|true=>some (jV,j9,e,n)|false=>none)|_=>none)->0<n/\jV=ty/\j9=sz:=by
   intro x hx hy
   rw[hx]at hy
   split at hy
   ·split at hy
    ·rename_i hb;cases hy;exact⟨lE hb,rfl,rfl⟩
    ·cases hy
   ·cases hy
  split at h
  ·obtain⟨h1,rfl,rfl⟩:=go h rfl
   exact⟨h1,_,hr,.inl rfl⟩
  ·obtain⟨h1,rfl,rfl⟩:=go h rfl
   exact⟨h1,_,hr,.inr rfl⟩
  ·cases h
 ·cases h
theorem Gm{N M:Nat}{c0:Ctx}{w0:World}{w:World}{a:Act}{T:iy}{env:List (Nat×D)}{K:Rows->Prop}:∀{l:List iE} {R:Rows} {c:Ctx},Ir T l env R K->fj N M c0 w0 c w ⟨env,R⟩ a->∃R' c',K R'/\fj N M c0 w0 c' w ⟨env,R'⟩ a
 |[],R,c,h,hs=>⟨R,c,h,hs⟩
 |.int _ _::l,R,c,h,hs=>Gm (l:=l) h hs
 |.arr _::l,R,c,h,hs=>Gm (l:=l) h hs
 |.sl _ _ _::l,R,c,h,hs=>Gm (l:=l) h hs
 |.fn _ _::l,R,c,h,hs=>Gm (l:=l) h hs
 |.ptr i _ _::l,R,c,h,hs=>by
  simp only[Ir]at h
  split at h
  rotate_left
  ·exact Gm (l:=l) h hs
  rename_i ty sz u n hr
  obtain⟨h0,d,h2,hd⟩:=qc hr
  simp only[nk,KH]at h
  have bd:i<R.length:=by
   by_cases bd:i<R.length
   ·exact bd
   ·rw[aV,aJ (by omega)]at h2;cases h2
  rw[List.set_append_left _ _ bd]at h
  have hi:c.R i=some ⟨true,ty,sz,.gen [[d]]⟩:=by rw[hs.rows];exact h2
  have hn:c.R R.length=none:=by rw[hs.rows,aV,aJ (aX _)];rfl
  have gv:i≠R.length:=by omega
  have Is:=Zg hs.mem hn (row:=⟨false,u,n,.gen []⟩) rfl rfl h0
  have WS:=Tc (w:=w) hn ⟨false,u,n,.gen []⟩
  have WT:(c.jv R.length ⟨false,u,n,.gen []⟩).R i=some ⟨true,ty,sz,.gen [[d]]⟩:=by simp[Ctx.jv,gv,hi]
  obtain⟨WU,BP⟩:=vb (e':=[.all R.length]) Is WT rfl (λarr hc=>by
   obtain⟨⟨v,hv,h1⟩,_⟩:=hc
   refine⟨⟨v,hv,⟨false,u,n,.gen []⟩,by simp[Ctx.jv],rfl,.inl ⟨.inl rfl,?_⟩⟩,trivial⟩
   rcases hd with rfl|rfl
   ·exact⟨none,h1,Nz⟩
   ·exact h1)
  have hg:=WS.trans WU
  have nF:lM c w ((c.jv R.length ⟨false,u,n,.gen []⟩).jT i ⟨true,ty,sz,.gen [[.all R.length]]⟩) w:=by
   refine⟨BP,hg,Fr.refl _ w,λb hb=>.inl hb,λr ao hr hv=>.inl ?_⟩
   have WV:r≠R.length:=λe=>hv (.inl e)
   by_cases er:r=i
   ·subst er;exact⟨⟨_,hi⟩,λe=>hv (.inr e),rfl⟩
   ·exact⟨⟨ao,by simpa[Ctx.jT,Ctx.jv,er,WV]using hr⟩,λe=>hv (.inr e),rfl⟩
  refine Gm (l:=l) h ⟨BP,λr=>?_,λt=>w7 hg (hs.env t),hs.size,hs.defers,hs.fy,hs.gw,hs.reach.step (ks:=[]) (λk hk=>by simp[da]at hk) hs.gw nF.toK⟩
  simp only[Ctx.jT,Ctx.jv]
  by_cases er:r=i
  ·subst er
   simp[aV,bI (show r<(R.set r _).length by simpa using bd),bd]
  ·rw [if_neg er]
   by_cases en:r=R.length
   ·subst en
    simp[aV]
   ·rw[if_neg en,hs.rows]
    by_cases hl:r<R.length
    ·simp[aV,bI (show r<(R.set i _).length by simpa using hl),List.getElem?_set_ne (Ne.symm er)]
    ·have h1:R.getD r none=none:=by rw[aV,aJ (by omega)];rfl
     rw[h1,aV,aJ (by simp;omega)];rfl
