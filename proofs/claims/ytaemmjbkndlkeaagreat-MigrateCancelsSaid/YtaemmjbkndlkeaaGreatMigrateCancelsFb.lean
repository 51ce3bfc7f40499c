import Derived.Test.YtaemmjbkndlkeaaGreatMigrateCancelsFk
import Derived.Laws.IdiomStrings
import Derived.Laws.BytesArg
import Derived.Laws.Cover3
import Derived.RangeFuncRecord
import Derived.OrdersIn
import Derived.LoopNIn
open List renaming getD->aV,getElem?_take->aF,getElem?_toArray->bH,getElem?_append_left->bI,size_toArray->aK,getElem?_append_right->bJ,length_take->aD,length_drop->aG,getElem?_eq_none->aJ,range'->bO,map_append->bP,map_congr_left->bQ,ext_getElem->bR,getElem_map->bS,getElem_range'->bT,map_toArray->bV
open Nat renaming mul_le_mul_right->bD,succ_mul->bF,zero_add->bG,add_mul->bK,le_refl->aX,add_zero->aB,le_trans->bL,lt_of_lt_of_le->bM,blt->bN
open Bool renaming or_eq_true->aT,false_eq_true->aA
open Array renaming getD->aY,empty_append->bU,toArray_toList->bW
open Option renaming bind_some->aW
set_option linter.all false
namespace Go.GD
open Go
variable {B M N g i id j k n r sz:Nat}{G:List bc}{I:ab}{K:D->Prop}{P:Program}{Q:Exit->Act->World->Prop}{R R':Rows}{T:iG}{a:Act}{after:Array Edge}{args:Array Operand}{b want:Bool}{cs:List iJ}{d val x:D}{ds:List Deferred}{dst:Option Tmp}{e ty type:TypeId}{es:ai}{ev:Operand->D}{ks:List Nat}{news us:List Value}{o:Oper}{ops:Array Oper}{pos:String}{ro:Option Nat}{row:Row}{st:St}{dv:Array TypeId}{v:Value}{w w' w0:World}
theorem Zji(w:World){t tx ty e:TypeId}{i:TypeInfo}(ht:P.underlying t=some (.slice e))(hi:P.info? e=some i)
 {a:Option Addr} {n cap m:Nat} {x:Value} {news:List Value} (hl:(Builtin.lenOf x).run P w=.ok m w) (hf:(Builtin.firstCells i.size (min m n) x).run P w=.ok news.toArray w) {w':World}
 (j5:∀b,a=some b->(storeCells b news).run P w=.ok () w') (nm:a=none->w'=w):
 (Builtin.copy_ #[t,tx] ty #[.slice a n cap,x]).run P w=.ok (.int .i64 (min m n:Nat)) w':=by
 cases a with
 |none=>
  have:=nm rfl
  subst this
  simp[Builtin.copy_,run_underlying ht,sizeOf,typeInfo,hi,hl,goInt,hf]
 |some b=>simp[Builtin.copy_,run_underlying ht,sizeOf,typeInfo,hi,hl,goInt,hf,j5 b rfl]
theorem Zce{es:List (List D)}(h:iA I w es news.toArray 0 sz)(hk:k<=es.length):iA I w (es.take k) (news.take (k*sz)).toArray 0 sz:=by
 rw[tF]at h⊢
 intro i hi
 have iL:i<k:=by simp at hi;omega
 obtain⟨h1,h2⟩:=h i (by omega)
 have he:(es.take k).getD i []=es.getD i []:=by simp[aV,aF,iL]
 rw[he]
 refine⟨h1,?_⟩
 rw[ub]at h2⊢
 intro j hj
 obtain⟨v,hv,hp⟩:=h2 j hj
 refine⟨v,?_,hp⟩
 have bg:i*sz+j<k*sz:=by
  have:=bD sz (show i+1<=k by omega)
  rw[bF]at this
  omega
 simp only[bG,bH]at hv⊢
 rw[aF,if_pos bg]
 exact hv
theorem Z1w{es ys:List (List D)}{A B:List Value}(h1:iA I w es A.toArray 0 sz)(hA:A.length=es.length*sz)(h2:iA I w ys B.toArray 0 sz):iA I w (es++ys) (A++B).toArray 0 sz:=by
 rw[tF]at h1 h2⊢
 intro i hi
 by_cases bg:i<es.length
 ·have he:(es++ys).getD i []=es.getD i []:=by simp[aV,bI bg]
  rw[he]
  obtain⟨g1,g2⟩:=h1 i bg
  refine⟨g1,?_⟩
  rw[ub]at g2⊢
  intro j hj
  obtain⟨v,hv,hp⟩:=g2 j hj
  refine⟨v,?_,hp⟩
  have hl:=(Array.getElem?_eq_some_iff.1 hv).1
  simp only[bH,aK]at hv hl⊢
  rw[bI hl];exact hv
 ·have iL:i-es.length<ys.length:=by simp at hi;omega
  have he:(es++ys).getD i []=ys.getD (i-es.length) []:=by simp[aV,bJ (show es.length<=i by omega)]
  rw[he]
  obtain⟨g1,g2⟩:=h2 _ iL
  refine⟨g1,?_⟩
  rw[ub]at g2⊢
  intro j hj
  obtain⟨v,hv,hp⟩:=g2 j hj
  refine⟨v,?_,hp⟩
  simp only[bH]at hv⊢
  have e:0+i*sz+j=A.length+(0+(i-es.length)*sz+j):=by
   rw[hA,show i*sz=(es.length+(i-es.length))*sz by congr 1;omega,bK];omega
  rw[e,bJ (by omega)]
  rw[show A.length+(0+(i-es.length)*sz+j)-A.length=0+(i-es.length)*sz+j by omega]
  exact hv
theorem Zrq{es:List (List D)}{arr:Array Value}(h:iA I w es arr 0 sz):iA I w (es.drop k) (arr.toList.drop (k*sz)).toArray 0 sz:=by
 have:=Kq (l:=k) h
 rw[tF]at this⊢
 intro i hi
 obtain⟨h1,h2⟩:=this i hi
 refine⟨h1,?_⟩
 rw[ub]at h2⊢
 intro j hj
 obtain⟨v,hv,hp⟩:=h2 j hj
 refine⟨v,?_,hp⟩
 simp only[bH,List.getElem?_drop]
 rw[<-hv]
 simp[Nat.add_assoc]
theorem qG{c:Ctx}(hm:Mem c w){row ao:Row}(hr:c.R r=some row)(h1:ao.box=row.box)(hb:row.box=false)(h2:ao.ty=row.ty)(h3:ao.sz=row.sz)(h4:ao.es.l=row.es.l):jh c w (c.jV r ao) w/\Mem (c.jV r ao) w:=by
 have hg:jh c w (c.jV r ao) w:=by
  refine⟨rfl,aX _,λb hb=>⟨hb,rfl⟩,λs x hs=>?_⟩
  by_cases e:s=r
  ·subst e
   rw[hr]at hs;cases hs
   exact⟨ao,by simp[Ctx.jV],h1,h2,h3,by rw[h4],rfl,Iff.rfl,λ_ a ha=>⟨a,ha,rfl⟩⟩
  ·exact⟨x,by simp[Ctx.jV,e,hs],rfl,rfl,rfl,rfl,rfl,Iff.rfl,λ_ a ha=>⟨a,ha,rfl⟩⟩
 have jI:∀s x,(c.jV r ao).R s=some x->∃x',c.R s=some x':=λs x hs=>by
  by_cases e:s=r
  ·exact⟨row,by rw[e];exact hr⟩
  ·exact⟨x,by simpa[Ctx.jV,e]using hs⟩
 refine⟨hg,λs x hs=>?_,λs q x y hs hq v1 v2 he=>?_,λb iu=>⟨(hm.fq b iu).1,λs x hs hv=>?_⟩,hm.top,hm.j4⟩
 ·by_cases e:s=r
  ·subst e
   simp only[Ctx.jV,if_true,Option.some.injEq]at hs
   subst hs
   rcases hm.row _ row hr with⟨g0,g1,g2,g3⟩|⟨g0,arr,g1,g2,g3⟩
   ·exact .inl ⟨g0,h1.trans g1,h4.trans g2,by rw[h3];exact g3⟩
   ·refine .inr ⟨g0,arr,by rw[h2];exact g1,by rw[h3];exact g2,?_⟩
    rw[if_neg (by rw[hb];simp)]at g3
    rw[if_neg (by rw[h1,hb];simp),h4,h3]
    exact g3
  ·have jb:c.R s=some x:=by simpa[Ctx.jV,e]using hs
   exact tE hg rfl Iff.rfl (λ_=>rfl) (hm.row s x jb)
 ·obtain⟨x',jO⟩:=jI s x hs
  obtain⟨y',Ah⟩:=jI q y hq
  exact hm.inj s q x' y' jO Ah v1 v2 he
 ·obtain⟨x',jO⟩:=jI s x hs
  exact(hm.fq b iu).2 s x' jO hv
theorem za(hT:jm P T){t tx ty:TypeId}{x y:D}{K:D->Rows->Prop}(h:uc T t tx x y R K):
 ∃ val R',K val R'/\∀c w vx vy,Mem c w->(∀r,c.R r=R.getD r none)->Rep c w x vx->Rep c w y vy->
  ∃v' w' c',(Builtin.copy_ #[t,tx] ty #[vx,vy]).run P w=.ok v' w'/\lO c w c' w'/\(∀r,c'.R r=R'.getD r none)/\Rep c' w' val v':=by
 unfold uc at h
 split at h
 ·rename_i e iQ _ _ _ _ _ ht
  have hk:=mJ hT ht
  simp only at hk
  split at h
  ·rename_i ke sz lH cs z q kx _ _ _ _ _ he htx
   obtain⟨i0,pQ,BK,_,Kr,Ai,_⟩:=DG (hT.get he)
   simp only at BK
   split at h
   ·rename_i sy ys jX
    simp only[dm,aE,aT]at h
    obtain⟨⟨⟨h0,h1⟩,h5⟩,h⟩:=h
    have h0:0<sz:=lE h0
    have h5:sy=sz\/ys.l=[]:=h5.imp bE SK
    have core:∀(r o n k:Nat) (jZ:TypeId) (es jc:ai),jc.l=es.l.take o++ys.l.take k++es.l.drop (o+k)->R.getD r none=some ⟨false,jZ,sz,es⟩->k=min ys.l.length n->o+n<=es.l.length->∀c w vx vy,Mem c w->(∀r,c.R r=R.getD r none)->
     ((n=0/\∃a,vx=.slice a 0 0)\/(¬c.V r/\∃cap arr,vx=.slice (some ⟨c.ρ r,o*sz,none⟩) n cap/\w.heap[c.ρ r]?=some (.cells arr jZ (0,0))))->Rep c w y vy->
     ∃v' w' c',(Builtin.copy_ #[t,tx] ty #[vx,vy]).run P w=.ok v' w'/\lO c w c' w'/\(∀q,c'.R q=(R.set r (some ⟨false,jZ,sz,jc⟩)).getD q none)/\v'=.int .i64 (k:Nat):=by
     intro r o n k jZ es jc H0 hr wc Ks c w vx vy hm hR hx hy
     have pq:mn c R:=λr row ao g1 g2=>by rw[hR,g2]at g1;exact(Option.some.inj g1).symm
     obtain⟨news,s1,s2,s3,s4⟩:=v7 (P:=P) h0 jX h5 hm pq hy
     have dc:c.R r=some ⟨false,jZ,sz,es⟩:=by rw[hR];exact hr
     rcases hx with⟨hn0,a,hx⟩|⟨hV,cap,arr,hx,hh⟩
     ·subst hx
      have Ai:k=0:=by omega
      have iy:=Zji (P:=P) w (ty:=ty) (tx:=tx) (a:=a) (n:=0) (cap:=0) (news:=[]) (w':=w) hk.1 pQ s2 (by rw[BK];simpa using s3 0 (Nat.zero_le _) w rfl) (λb _=>by simp[storeCells]) (λ_=>rfl)
      have hl:jc.l=es.l:=by rw[H0,Ai];simp
      obtain⟨u1,u2⟩:=qG hm dc (ao:=⟨false,jZ,sz,jc⟩) rfl rfl rfl rfl hl
      refine⟨_,w,c.jV r ⟨false,jZ,sz,jc⟩,iy,⟨u2,u1,Fr.refl _ w,λb hb=>.inl hb,λq row hq v=>.inl ⟨?_,v,rfl⟩⟩,λq=>?_,by rw[Ai];simp⟩
      ·by_cases e:q=r
       ·exact⟨_,by rw[e];exact dc⟩
       ·exact⟨row,by simpa[Ctx.jV,e]using hq⟩
      ·rw[Gg hr]
       simp only[Ctx.jV]
       split
       ·rfl
       ·exact hR q
     ·subst hx
      obtain⟨cur,ha,_,hE⟩:=hm.real dc hV
      simp only at ha
      rw[hh]at ha;cases ha
      simp only[aA,if_false]at hE
      have kO:es.l.length*sz<=arr.size:=by
       by_cases he:es.l.length=0
       ·rw[he];omega
       ·have:=Z69 hE h0 (show es.l.length-1<es.l.length by omega)
        have e1:es.l.length*sz=(es.l.length-1)*sz+sz:=by rw[show es.l.length*sz=(es.l.length-1+1)*sz by congr 1;omega,bF]
        omega
      have Ws:k<=ys.l.length/\k<=n:=by omega
      have mU:o*sz+0+(news.take (k*sz)).length<=arr.size:=by
       have h1:(o+k)*sz<=es.l.length*sz:=bD _ (by omega)
       rw[bK]at h1
       rw[aD];omega
      have hlen:(news.take (k*sz)).length=k*sz:=by
       have:=bD sz Ws.1
       rw[aD];omega
      have j5:=run_storeCells_at (P:=P) (c.ρ r) (o*sz) jZ (news.take (k*sz)) 0 arr w hh mU (λu hu=>iA.one s4 s1 u (List.mem_of_mem_take hu))
      have iy:=Zji (P:=P) w (ty:=ty) (tx:=tx) (a:=some ⟨c.ρ r,o*sz,none⟩) (n:=n) (cap:=cap) (news:=news.take (k*sz)) (w':=w.setRow (c.ρ r) (arr.toList.take (o*sz+0)++news.take (k*sz)++arr.toList.drop (o*sz+0+(news.take (k*sz)).length)).toArray) hk.1 pQ s2 (by rw[BK,<-wc];exact s3 k Ws.1 w rfl) (λb hb=>by cases hb;simpa using j5) (λh=>by cases h)
      have wh:jc.l.length=es.l.length:=by rw[H0];simp only[lA,aD,aG];omega
      have hw:=hm.write (ao:=⟨false,jZ,sz,jc⟩) dc hV hh (arr:=(arr.toList.take (o*sz+0)++news.take (k*sz)++arr.toList.drop (o*sz+0+(news.take (k*sz)).length)).toArray)
       (by simp only[aK,lA,aD,aG,Array.length_toList];simp only[aD]at mU;omega) rfl rfl rfl wh
      have jj:=hw.2 ⟨h0,by
       simp only[aA,if_false]
       rw[H0]
       refine nJ (λb hb=>⟨hb,(hw.1.I b hb).2⟩) _ _ _ _ ?_
       have p1:=Zce (k:=o) (I:=c.I) (w:=w) (news:=arr.toList) (es:=es.l) (sz:=sz) (by simpa using hE) (by omega)
       have p2:=Zce (k:=k) s4 Ws.1
       have p3:=Zrq (k:=o+k) hE
       have l1:(arr.toList.take (o*sz)).length=(es.l.take o).length*sz:=by
        have:=bD sz (show o<=es.l.length by omega)
        rw[aD,aD,show min o es.l.length=o by omega,show arr.toList.length=arr.size from rfl];omega
       have q1:=Z1w p1 l1 p2
       have l2:(arr.toList.take (o*sz)++news.take (k*sz)).length=(es.l.take o++ys.l.take k).length*sz:=by
        rw[lA,l1,hlen,lA,bK,aD (l:=ys.l),show min k ys.l.length=k by omega]
       have q2:=Z1w q1 l2 p3
       have e2:o*sz+0+(news.take (k*sz)).length=(o+k)*sz:=by rw[hlen,bK];omega
       rw[e2]
       simpa using q2⟩
      refine⟨_,_,c.jV r ⟨false,jZ,sz,jc⟩,iy,⟨jj,hw.1,(Sy w _ _).mono λb _ hb=>⟨r,_,dc,hV,hb.symm⟩,λb hb=>.inl hb,λq ao hq v=>.inl ⟨?_,v,rfl⟩⟩,λq=>?_,by rw[wc]⟩
      ·by_cases e:q=r
       ·exact⟨_,by rw[e];exact dc⟩
       ·exact⟨ao,by simpa[Ctx.jV,e]using hq⟩
      ·rw[Gg hr]
       simp only[Ctx.jV]
       split
       ·rfl
       ·exact hR q
    cases x<;>simp only at h
    case all r=>
     split at h
     ·rename_i jZ s es hr
      simp only[dm,nA]at h
      have hs:=bE h.1
      subst hs
      refine⟨_,_,h.2,λc w vx vy hm hR hx hy=>?_⟩
      obtain⟨row,q1,q2,hv⟩:=hx
      have dc:row=⟨false,jZ,s,es⟩:=by rw[hR,hr]at q1;exact(Option.some.inj q1).symm
      subst dc
      have jO:(es.l.length=0/\∃a,vx=.slice a 0 0)\/(¬c.V r/\∃cap arr,vx=.slice (some ⟨c.ρ r,0*s,none⟩) es.l.length cap/\w.heap[c.ρ r]?=some (.cells arr jZ (0,0))):=by
       rcases hv with⟨hV,a,hv,_⟩|⟨hV,cap,arr,hv,h1,h2,h3,h4⟩
       ·have:=(hm.nH q1 hV).2.1
        simp only at this
        exact .inl ⟨by rw[this];rfl,a,hv⟩
       ·exact .inr ⟨hV,cap,arr,by rw[Nat.zero_mul];exact hv,h3⟩
      obtain⟨v',w',c',p1,p2,p3,p4⟩:=core r 0 es.l.length _ jZ es ((ys.take (min ys.len es.len)).app (es.drop (min ys.len es.len))) (by rw[ai.j9,ai.je,ai.kz,ai.iE,ai.iE];simp) hr rfl (by omega) c w vx vy hm hR jO hy
      exact⟨v',w',c',p1,p2,p3,by rw[p4,ai.iE,ai.iE];rfl⟩
     ·exact h.elim
    case own r o n=>
     split at h
     ·rename_i jZ s es hr
      simp only[dm,nA]at h
      have hs:=bE h.1
      subst hs
      refine⟨_,_,h.2,λc w vx vy hm hR hx hy=>?_⟩
      obtain⟨row,q1,q2,ho,hv⟩:=hx
      have dc:row=⟨false,jZ,s,es⟩:=by rw[hR,hr]at q1;exact(Option.some.inj q1).symm
      subst dc
      have jO:(n=0/\∃a,vx=.slice a 0 0)\/(¬c.V r/\∃cap arr,vx=.slice (some ⟨c.ρ r,o*s,none⟩) n cap/\w.heap[c.ρ r]?=some (.cells arr jZ (0,0))):=by
       rcases hv with⟨h0,a,hv,_⟩|⟨hV,cap,arr,h1,h2,h3,hv,h4⟩
       ·exact .inl ⟨h0,a,hv⟩
       ·exact .inr ⟨hV,cap,arr,hv,h3⟩
      obtain⟨v',w',c',p1,p2,p3,p4⟩:=core r o n _ jZ es (((es.take o).app (ys.take (min ys.len n))).app (es.drop (o+min ys.len n))) (by rw[ai.j9,ai.j9,ai.je,ai.je,ai.kz,ai.iE]) hr rfl ho c w vx vy hm hR jO hy
      exact⟨v',w',c',p1,p2,p3,by rw[p4,ai.iE];rfl⟩
     ·exact h.elim
   ·exact h.elim
  ·exact h.elim
 ·exact h.elim
theorem Zoz{mx:Bool}{x y:D}(h:wj mx x y K):∃val,K val/\∀(P:Program) c w vx vy,Rep c w x vx->Rep c w y vy->∃u,((mx=false->∀dv ty,(Builtin.min_ dv ty #[vx,vy]).run P w=.ok u w)/\(mx=true->∀dv ty,(Builtin.max_ dv ty #[vx,vy]).run P w=.ok u w))/\Rep c w val u:=by
 unfold wj at h
 split at h
 ·rename_i k a k' b
  simp only[dm,decide_eq_true_eq]at h
  obtain⟨rfl,h⟩:=h
  refine⟨_,h,λP c w vx vy hx hy=>⟨_,⟨λe dv ty=>?_,λe dv ty=>?_⟩,rfl⟩⟩
  ·subst e
   rw[Rep.int.1 hx,Rep.int.1 hy]
   simp[Builtin.min_,Builtin.min2]
  ·subst e
   rw[Rep.int.1 hx,Rep.int.1 hy]
   simp[Builtin.max_,Builtin.max2]
 ·exact h.elim
theorem Zh7(hT:jm P T){t:TypeId}(h:Kt T t es K):K (.mY es)/\∀c w vx vy,(∃a n cap,vx=.slice a n cap/\(a=none->es.l=[]))->Rep c w .de vy->∃u,(∀x y,(do eqGuard .eql t x y vx vy;binOp .eql t vx vy).run P w=.ok u w)/\Rep c w (.mY es) u:=by
 unfold Kt at h
 split at h
 ·rename_i e n _ _ _ _ _ ht
  have hk:=mJ hT ht
  simp only at hk
  refine⟨h,λc w vx vy hx hy=>?_⟩
  obtain⟨a,len,cap,hv,il⟩:=hx
  rw[show vy=_ from hy,hv]
  refine⟨.bool a.isNone,λx y=>?_,a.isNone,rfl,λe'=>?_⟩
  ·have hg:(eqGuard .eql t x y (.slice a len cap) (.slice none 0 0)).run P w=.ok () w:=rfl
   rw[Sem.run_bind,hg]
   simp only[Result.andThen_ok,binOp]
   simp only[run_equal_slice_nil w t e a len cap hk.1,Sem.run_bind,Result.andThen_ok,Sem.run_pure]
  ·exact il (by cases a<;>simp_all)
 ·exact h.elim
theorem xG(hT:jm P T){t:TypeId}(h:Kt T t es K):K (.mY es)/\∀s fr c w vx vy,Rep c w (.sl s es fr) vx->Rep c w .de vy->∃u,(∀x y,(do eqGuard .eql t x y vx vy;binOp .eql t vx vy).run P w=.ok u w)/\Rep c w (.mY es) u:=by
 obtain⟨h1,h2⟩:=Zh7 hT h
 refine⟨h1,λs fr c w vx vy hx hy=>h2 c w vx vy ?_ hy⟩
 obtain⟨a,cap,hv,hc,il⟩:=hx
 refine⟨a,_,cap,hv,λha=>?_⟩
 rcases il with il|⟨b,off,arr,ty,fz,hb,_⟩
 ·exact il
 ·rw[ha]at hb;cases hb
theorem ya(hT:jm P T){t:TypeId}{bx:Bool}{jZ ka:Nat}(hR:R.getD r none=some ⟨bx,jZ,ka,es⟩)(h:Kt T t es K):K (.mY es)/\∀c w vx vy,Mem c w->mn c R->Rep c w (.all r) vx->Rep c w .de vy->∃u,(∀x y,(do eqGuard .eql t x y vx vy;binOp .eql t vx vy).run P w=.ok u w)/\Rep c w (.mY es) u:=by
 obtain⟨h1,h2⟩:=Zh7 hT h
 refine⟨h1,λc w vx vy hm hA hx hy=>h2 c w vx vy ?_ hy⟩
 obtain⟨row,g1,g2,hv⟩:=hx
 have:=hA r row _ g1 hR
 subst this
 rcases hv with⟨hV,a,hv,_⟩|⟨hV,cap,arr,hv,_⟩
 ·exact⟨a,0,0,hv,λ_=>(hm.nH g1 hV).2.1⟩
 ·exact⟨_,_,cap,hv,λe=>by cases e⟩
theorem Ztc{l:List Int}(h:iA I w (ai.ints .u8 l).l news.toArray 0 1)(hl:news.length=(ai.ints .u8 l).l.length*1):news=l.map (Value.int .u8):=by
 have pR:news.length=l.length:=by simpa[ai.len]using hl
 apply List.ext_getElem?
 intro i
 by_cases hi:i<l.length
 ·obtain⟨h1,h2⟩:=tF.1 h i (by simpa[ai.len]using hi)
  rw[ai.nB _ (show i<(ai.ints .u8 l).len from hi)]at h2
  simp only[ai.get,DH,DI,sr,ss,su,sw,sx,sA,tH,ud,ue,uf,ug,uh,ui,uj,uk,um,and_true]at h2
  obtain⟨v,hv,hp⟩:=h2
  simp only[bG,Nat.mul_one,aB,bH]at hv
  rw[hv,hp]
  simp[aV,hi]
 ·rw[aJ (by omega),aJ (by simp;omega)]
theorem zG(hT:jm P T){s e d:TypeId}{n a1 a2:Nat}{a3:List tI}{a4:Option (List D)}{a5:Bool}(hs:T.get s=some ⟨.slice e n,a1,a2,a3,a4,a5⟩)(h:wm T e d x R K):
 ∃val,K val/\∀c w v,Mem c w->mn c R->Rep c w x v->Gh P (convert s d v) w c val:=by
 unfold wm at h
 split at h
 ·rename_i he hd
  have nq:=mJ hT hs
  have rQ:=mJ hT he
  have Ku:=mJ hT hd
  simp only at nq rQ Ku
  split at h
  ·rename_i sy es jX
   split at h
   rotate_left
   ·exact h.elim
   rename_i l hto
   have Gi:=ai.toI_l hto
   simp only[dm,aT]at h
   obtain⟨h5,h⟩:=h
   have h5:sy=1\/es.l=[]:=h5.imp bE SK
   refine⟨_,h,λc w v hm hA hr=>?_⟩
   have hsl:∃a cap,v=.slice a es.l.length cap:=by
    cases x<;>simp only[sB]at jX<;>try(cases jX;done)
    case de=>cases jX;exact⟨none,0,hr⟩
    case emp=>cases jX;obtain⟨a,hr,_⟩:=hr;exact⟨a,0,hr⟩
    case sl=>cases jX;obtain⟨a,cap,hv,_⟩:=hr;exact⟨a,cap,hv⟩
    case all r=>
     split at jX
     ·rename_i jZ s' jc hR
      cases jX
      obtain⟨row,g1,g2,hv⟩:=hr
      have:=hA r row _ g1 hR
      subst this
      rcases hv with⟨hV,a,hv,_⟩|⟨hV,cap,arr,hv,_⟩
      ·have he:=(hm.nH g1 hV).2.1
       simp only at he
       exact⟨a,0,by rw[he];exact hv⟩
      ·exact⟨_,cap,hv⟩
     ·cases jX
    case own r o m=>
     split at jX
     ·rename_i jZ s' jc hR
      cases jX
      obtain⟨row,g1,g2,g5,hv⟩:=hr
      have:=hA r row _ g1 hR
      subst this
      simp only at g5
      have hlen:((jc.drop o).take m).l.length=m:=by rw[ai.je,ai.kz];simp only[aD,aG];omega
      rw[hlen]
      rcases hv with⟨h0,a,hv,_⟩|⟨hV,cap,arr,_,_,_,hv,_⟩
      ·subst h0;exact⟨a,0,hv⟩
      ·exact⟨_,cap,hv⟩
     ·cases jX
   obtain⟨a,cap,hv⟩:=hsl
   subst hv
   obtain⟨news,s1,s2,s3,s4⟩:=y7 (P:=P) (by omega) jX h5 hm hA hr
   rw[Gi]at s1 s4
   have hn:=Ztc s4 s1
   have hlen:es.l.length=l.length:=by rw[Gi];simp[ai.len]
   have hf:=s3 es.l.length (aX _) w rfl
   rw[List.take_of_length_le (by rw[hn,hlen];simp)]at hf
   refine⟨.string ⟨(bytesOf l).toArray⟩,?_,rfl⟩
   rw[run_convert_bytes_string w s d e a es.l.length cap nq.1 rQ Ku]
   cases a with
   |none=>
    simp only[Builtin.firstCells,Sem.run_pure,Result.ok.injEq,and_true]at hf
    have h1:news=[]:=by
     have:=congrArg Array.toList hf
     simpa using this.symm
    have he:l=[]:=by rw[h1]at hn;simpa using hn.symm
    subst he
    simp only[Conv.bytesToString,Sem.run_pure,bytesOf,List.map_nil]
    rfl
   |some a=>
    simp only[Builtin.firstCells,Nat.mul_one]at hf
    rw[hn]at hf
    rw[run_bytesToString w a es.l.length cap _ hf,foldl_push_bytes]
    have he0:ByteArray.empty.data= #[]:=rfl
    rw[he0]
    simp[bytesOf]
  ·exact h.elim
 ·exact h.elim
structure Ac(c0:Ctx)(w0:World)(c:Ctx)(w:World):Prop where
 db:jh c0 w0 c w
 fr:Fr (λb=>(∃r x,c0.R r=some x/\¬c0.V r/\c0.ρ r=b)\/c0.X b) w0 w
 fq:∀b,c.I b->c0.I b\/c0.X b\/w0.heap.size<=b
 ov:∀r row,c.R r=some row->¬c.V r->((∃x,c0.R r=some x)/\¬c0.V r/\c.ρ r=c0.ρ r)\/c0.X (c.ρ r)\/w0.heap.size<=c.ρ r
 xb:∀b,c0.X b->c0.base<=b
theorem Ac.refl(c:Ctx)(w:World):Ac {c with X:=λ_=>False} w c w:=
 ⟨⟨rfl,aX _,λ_ h=>⟨h,rfl⟩,λ_ row h=>⟨row,h,rfl,rfl,rfl,rfl,rfl,Iff.rfl,λ_ arr h=>⟨arr,h,rfl⟩⟩⟩,Fr.refl _ w,λ_ h=>.inl h,λ_ row h v=>.inl ⟨⟨row,h⟩,v,rfl⟩,λ_ h=>h.elim⟩
theorem Zn{c0 c:Ctx}(hM:∀k,cw k ks=true->M<=k)(Es:∀r row,c0.R r=some row->r<M)(h:jh c0 w0 c w):jh c0 w0 (c.kill ks) w:=by
 refine⟨h.base,h.top,h.I,λr row hr=>?_⟩
 obtain⟨ao,g1,g2,g3,g4,g5,g6,gV,g7⟩:=h.R r row hr
 obtain⟨s1,s2,s3,s4⟩:=wo ks ao
 have bg:=Es r row hr
 refine⟨ao.kill ks,?_,s1.trans g2,s2.trans g3,s3.trans g4,s4.trans g5,g6,gV,g7⟩
 simp only[Ctx.kill]
 rw[if_neg (λe=>by have:=hM r e;omega),g1];rfl
theorem Ac.step{c0 c c':Ctx}(hM:∀k,cw k ks=true->M<=k)(Es:∀r row,c0.R r=some row->r<M)(h:Ac c0 w0 c w)(n:jP ks c w c' w'):Ac c0 w0 c' w':=by
 have BL:∀s x,cw s ks=true->c.R s=some x->¬c.V s->c0.X (c.ρ s)\/w0.heap.size<=c.ρ s:=λs x hs hx v'=>by
  rcases h.ov s x hx v' with⟨⟨y,hy⟩,_⟩|e'
  ·have:=Es s y hy;have:=hM s hs;omega
  ·exact e'
 refine⟨(Zn hM Es h.db).trans n.db,⟨n.fr.os.trans h.fr.os,n.fr.tape.trans h.fr.tape,n.fr.output.trans h.fr.output,bL h.fr.size n.fr.size,λb hb hx=>?_⟩,λb hb=>?_,λr row hr hv=>?_,h.xb⟩
 ·have bg:b<w.heap.size:=bM hb h.fr.size
  refine(n.fr.heap b bg fun⟨r,x,hr,v,e⟩=>?_).trans (h.fr.heap b hb hx)
  rcases h.ov r x hr v with⟨⟨y,hy⟩,v',e'⟩|e'|e'
  ·exact hx (.inl ⟨r,y,hy,v',by rw[<-e',e]⟩)
  ·exact hx (.inr (by rw[<-e];exact e'))
  ·omega
 ·rcases n.fq b hb with h1|⟨s,x,hs,hx,v',e⟩|h1
  ·exact h.fq b h1
  ·rcases BL s x hs hx v' with h1|h1
   ·exact .inr (.inl (by rw[<-e];exact h1))
   ·exact .inr (.inr (by omega))
  ·have:=h.fr.size;exact .inr (.inr (by omega))
 ·rcases n.ov r row hr hv with⟨⟨x,hx⟩,v',e⟩|⟨s,x,hs,hx,v',e⟩|e
  ·rcases h.ov r x hx v' with⟨h1,h2,e'⟩|e'|e'
   ·exact .inl ⟨h1,h2,e.trans e'⟩
   ·exact .inr (.inl (by rw[e];exact e'))
   ·exact .inr (.inr (by omega))
  ·rcases BL s x hs hx v' with h1|h1
   ·exact .inr (.inl (by rw[e];exact h1))
   ·exact .inr (.inr (by omega))
  ·have:=h.fr.size;exact .inr (.inr (by omega))
def mf(n:Nat)(w:World)(ds:List Deferred):Prop:=∃bs:List Nat,bs.Nodup/\ds=bs.map (λb=>({target:=.collected b,args:= #[]}:Deferred))/\∀b∈bs,n<=b/\w.heap[b]?=some (.deferred (some []))
theorem mf.nil:mf n w []:=⟨[],List.nodup_nil,rfl,λb hb=>by simp at hb⟩
theorem mf.to(h:mf n w ds)(hf:∀b:Nat,w.heap[b]?=some (Obj.deferred (some []))->w'.heap[b]?=some (Obj.deferred (some []))):mf n w' ds:=by
 obtain⟨bs,h1,h2,h3⟩:=h
 exact⟨bs,h1,h2,λb hb=>⟨(h3 b hb).1,hf b (h3 b hb).2⟩⟩
theorem mf.step{c:Ctx}(h:mf n w ds)(hm:Mem c w)(hf:Fr (λb=>∃r x,c.R r=some x/\¬c.V r/\c.ρ r=b) w w'):mf n w' ds:=by
 refine h.to λb h2=>(hf.heap b (Array.getElem?_eq_some_iff.1 h2).1 fun⟨r,x,hr,hV,e⟩=>?_).trans h2
 rcases hm.row r x hr with h3|⟨_,arr,h3,_⟩
 ·exact hV h3.1
 ·rw[e,h2]at h3;cases h3
theorem mf.put(h:mf n w a.defers):mf n w (a.put dst v).defers:=by
 cases dst<;>exact h
structure fu(N M:Nat)(c0:Ctx)(w0:World)(c:Ctx)(w:World)(st:St)(a:Act):Prop where
 mem:Mem c w
 rows:∀r,c.R r=st.rows.getD r none
 env:∀t,Rep c w (look st.env t) (a.tmps.getD t undef)
 size:N<=a.tmps.size
 defers:mf w0.heap.size w a.defers
 gk:c0.base<=w0.heap.size
 ib:∀r row,c0.R r=some row->r<M
 reach:Ac c0 w0 c w
theorem fu.base{c0:Ctx}{c:Ctx}(h:fu N M c0 w0 c w st a):c.base<=w.heap.size:=by
 rw[h.reach.db.base];exact bL h.gk h.reach.fr.size
theorem Kp{c:Ctx}{env:List (Nat×D)}(f:Nat):Rep c w (cq env (.func f)) (a.eval (.func f)):=by
 simp only[cq,Act.eval]
 cases h:bN f YB with
 |false=>trivial
 |true=>exact⟨[],.inl ⟨lE h,rfl⟩,trivial⟩
theorem Nl{c:Ctx}{env:List (Nat×D)}(h:∀t,Rep c w (look env t) (a.tmps.getD t undef))(x:Operand):Rep c w (cq env x) (a.eval x):=by
 cases x with
 |tmp t=>exact h t
 |const v=>
  simp only[cq,Act.eval]
  cases hv:Ge v with
  |none=>trivial
  |some d=>exact Nj hv c w
 |global g=>trivial
 |func f=>exact Kp f
def sj(env:List (Nat×D))(dst:Option Tmp)(d:D):List (Nat×D):=match dst with|none=>env|some t=>(t,d)::env
theorem AV(env:List (Nat×D))(t:Nat)(d:D)(s:Nat):look ((t,d)::env) s=if t=s then d else look env s:=by
 simp only[look]
 cases hb:Nat.beq t s with
 |true=>rw[if_pos (bE hb)]
 |false=>rw[if_neg (λe=>by rw[e]at hb;simp at hb)]
theorem Zbr{c:Ctx}{env:List (Nat×D)}(hN:N<=a.tmps.size)(hd:∀t,dst=some t->t<N)(h:∀t,Rep c w (look env t) (a.tmps.getD t undef))(hv:Rep c w d v)(t:Nat):
 Rep c w (look (sj env dst d) t) ((a.put dst v).tmps.getD t undef):=by
 cases dst with
 |none=>exact h t
 |some s=>
  have hs:=hd s rfl
  simp only[sj,Act.put,AV]
  by_cases e:s=t
  ·subst e
   rw[if_pos rfl]
   have bg:s<a.tmps.size:=bM hs hN
   simpa[aY,bg]using hv
  ·rw[if_neg e]
   have:=h t
   simpa[Array.getElem?_setIfInBounds_ne e]using this
def jz:List Operand->Nat
 |[]=>1
 |.tmp t::l=>t+1+jz l
 |_::l=>jz l
theorem Wt:∀{l:List Operand},0<jz l
 |[]=>by simp[jz]
 |x::l=>by cases x<;>simp only[jz]<;>have:=Wt (l:=l)<;>omega
theorem SL{t:Nat}:∀{l:List Operand},.tmp t∈l->t<jz l
 |x ::l,h=>by
  rcases List.mem_cons.1 h with e|e
  ·subst e;simp only[jz];omega
  ·have:=SL e
   cases x<;>simp only[jz]<;>omega
def Gj(B:Nat):List iJ->List (Nat×D)
 |[]=>[]
 |x::l=>(B,x.d)::Gj (B+1) l
theorem Nn{env:List (Nat×D)}:∀{cs:List iJ} {B t:Nat},look (Gj B cs++env) t=if h:B<=t/\t-B<cs.length then(cs[t-B]'h.2).d else look env t
 |[],B,t=>by simp[Gj]
 |x ::l,B,t=>by
  simp only[Gj,List.cons_append,AV,Nn (cs:=l) (B:=B+1)]
  by_cases e:B=t
  ·subst e;simp
  ·rw[if_neg e]
   by_cases h:B+1<=t/\t-(B+1)<l.length
   ·rw[dif_pos h,dif_pos (by simp;omega)]
    have:t-B=(t-(B+1))+1:=by omega
    simp only[this,List.getElem_cons_succ]
   ·rw[dif_neg h,dif_neg (by simp;omega)]
def Et(args:Array Operand)(n:Nat):Array Operand:=(args.toList++(bO (jz args.toList) n).map Operand.tmp).toArray
def tJ(a:Act)(B:Nat)(us:List Value):Act:={tmps:=((List.range B).map (λi=>a.tmps.getD i undef)++us).toArray,defers:=[]}
theorem Zic{t:Nat}(h:t<B):(tJ a B us).tmps.getD t undef=a.tmps.getD t undef:=by
 simp[tJ,aY,h,List.getElem_append]
 omega
theorem Zh5:(tJ a B us).tmps.getD (B+i) undef=us.getD i undef:=by
 simp only[tJ,Array.getD_eq_getD_getElem?,bH]
 rw[bJ (by simp)]
 simp[aV]
theorem oR.length{c:Ctx}{w:World}:∀{cs:List iJ} {us:List Value},oR c w cs us->us.length=cs.length
 |[],[],_=>rfl
 |_::_,_::_,h=>by simp[oR.length h.2]
 |[],_::_,h=>h.elim
 |_::_,[],h=>h.elim
theorem oR.get{c:Ctx}{w:World}:∀{cs:List iJ} {us:List Value},oR c w cs us->∀i (h:i<cs.length),SM c w (cs[i]'h) (us.getD i undef)
 |[],[],_,i,h=>by simp at h
 |_::_,_::_,h,0,_=>by simpa using h.1
 |_::_,_::_,h,i+1,hi=>by simpa using oR.get h.2 i (by simpa using hi)
 |[],_::_,h,_,_=>h.elim
 |_::_,[],h,_,_=>h.elim
theorem Zcr{env:List (Nat×D)}:(Et args cs.length).toList.map (cq (Gj (jz args.toList) cs++env))=args.toList.map (cq env)++cs.map iJ.d:=by
 simp only[Et,bP]
 congr 1
 ·refine bQ λx hx=>?_
  cases x with
  |tmp t=>simp only[cq,Nn];rw[dif_neg (by have:=SL hx;omega)]
  |_=>rfl
 ·refine bR (by simp) λi h1 h2=>?_
  have:i<cs.length:=by simpa using h2
  simp only[bS,bT,cq,Nn]
  rw[dif_pos (by omega)]
  congr 1
  simp
theorem Z1l:(Et args us.length).toList.map (tJ a (jz args.toList) us).eval=args.toList.map a.eval++us:=by
 simp only[Et,bP]
 congr 1
 ·refine bQ λx hx=>?_
  cases x with
  |tmp t=>exact Zic (SL hx)
  |_=>rfl
 ·refine bR (by simp) λi h1 h2=>?_
  have:i<us.length:=h2
  simp only[bS,bT,Act.eval,Nat.one_mul]
  rw[Zh5]
  simp[aV,this]
theorem BM{c:Ctx}{env:List (Nat×D)}(hl:∀x∈args.toList,Rep c w (cq env x) (a.eval x))(hc:oR c w cs us):∀x∈(Et args cs.length).toList,Rep c w (cq (Gj (jz args.toList) cs++env) x) ((tJ a (jz args.toList) us).eval x):=by
 intro x hx
 simp only[Et,List.mem_append,List.mem_map]at hx
 rcases hx with hx|⟨t,ht,rfl⟩
 ·have:=hl x hx
  cases x with
  |tmp t=>
   have bg:=SL hx
   simp only[cq,Nn,Act.eval]
   rw[dif_neg (by omega),Zic bg]
   exact this
  |_=>exact this
 ·rw[List.mem_range'_1]at ht
  obtain⟨i,hi,rfl⟩:∃i:Nat,i<cs.length/\t=jz args.toList+i:=⟨t-jz args.toList,Nat.sub_lt_left_of_lt_add ht.1 ht.2,(Nat.add_sub_cancel' ht.1).symm⟩
  have h2:=oR.get hc i hi
  have h3:look (Gj (jz args.toList) cs++env) (jz args.toList+i)=(cs[i]'hi).d:=by
   rw[Nn,dif_pos ⟨by omega,by omega⟩]
   congr 1
   simp
  simp only[cq,Act.eval]
  rw[h3,Zh5]
  exact Rep.Kv (VRep.Eu (Wu.1 h2))
theorem zaz{f:FuncId}(he:∀args w,(callFunc f args).run P w=.ok (.enter f args) w){t:Tmp}{guard:Option (Nat×Bool)}
 (ht:a.eval (.tmp t)=.func (.func f) #[] us.toArray) {K:Act->World->Prop} {Q:Exit->Act->World->Prop}
 (h:(⟨some 0,.call ⟨.value (.func f),Et args us.length,dv⟩,type,pos,after,guard⟩:Oper).nu P (tJ a (jz args.toList) us) w (λa' w'=>K (a.put dst (a'.tmps.getD 0 undef)) w') (λ_ _ _=>False)):
 (⟨dst,.call ⟨.value (.tmp t),args,dv⟩,type,pos,after,guard⟩:Oper).nu P a w K Q:=by
 have hv:=Z1l (a:=a) (args:=args) (us:=us)
 have r1:(execOp (tJ a (jz args.toList) us).eval (⟨some 0,.call ⟨.value (.func f),Et args us.length,dv⟩,type,pos,after,guard⟩:Oper)).run P w=.ok (.enter f (args.toList.map a.eval++us).toArray) w:=by
  simp only[execOp,resolve,Act.eval,Deferred.ofValue,Sem.run_bind,Sem.run_pure,Result.andThen_ok,invoke,bU,Array.append_empty]
  rw[he,<-hv,<-bV,bW]
 have r2:(execOp a.eval (⟨dst,.call ⟨.value (.tmp t),args,dv⟩,type,pos,after,guard⟩:Oper)).run P w=.ok (.enter f (args.toList.map a.eval++us).toArray) w:=by
  simp only[execOp,resolve,ht,Deferred.ofValue,Sem.run_bind,Sem.run_pure,Result.andThen_ok,invoke,bU]
  rw[he]
  congr 2
  rw[<-List.append_toArray,<-bV,bW]
 have bg:0<(tJ a (jz args.toList) us).tmps.size:=by have:=Wt (l:=args.toList);simp[tJ];omega
 unfold Oper.nu at h⊢
 rw[r1]at h
 rw[r2]
 refine Calls.mono h λe w' ⟨v,he,hp⟩=>⟨v,he,?_⟩
 have:((tJ a (jz args.toList) us).put (some 0) v).tmps.getD 0 undef=v:=by
  simp only[Act.put]
  simp[aY,bg]
 simp only[this]at hp
 exact hp
theorem yG{t:Tmp}{guard:Option (Nat×Bool)}{l:Nat}{rec:Loop}
 (ht:a.eval (.tmp t)=.func (.yield l) #[] #[]) (hl:w.heap[l]?=some (.loop rec)) {K:Act->World->Prop} {Q:Exit->Act->World->Prop} (hs:(args.toList.map a.eval).length=rec.params.size)
 (h:RoundIn Fence.wide 0 P l rec.fn ((rec.params.zip (args.toList.map a.eval).toArray).foldl (λtmps (t,a)=>tmps.setIfInBounds t a) rec.tmps) rec.assign rec.body w λe w'=>∃v,e=.returned v/\K (a.put dst v) w'):
 (⟨dst,.call ⟨.value (.tmp t),args,dv⟩,type,pos,after,guard⟩:Oper).nu P a w K Q:=by
 have r2:(execOp a.eval (⟨dst,.call ⟨.value (.tmp t),args,dv⟩,type,pos,after,guard⟩:Oper)).run P w=.ok (.round l rec.fn ((rec.params.zip (args.toList.map a.eval).toArray).foldl (λtmps (t,a)=>tmps.setIfInBounds t a) rec.tmps) rec.assign rec.body) w:=by
  simp only[execOp,resolve,ht,Deferred.ofValue,Sem.run_bind,Sem.run_pure,Result.andThen_ok,invoke,bU]
  have hy:=run_yield (P:=P) (args:=(args.toList.map a.eval).toArray) hl (by simpa using hs)
  rw[<-hy,<-bV,bW]
 unfold Oper.nu
 rw[r2]
 exact h
section
variable {P:Program} {G:List bc} {M:Nat} {dst:Option Tmp} {f:FuncId} {t:Tmp} {args:Array Operand} {dv:Array TypeId} {type:TypeId} {pos':String} {after:Array Edge} {guard:Option (Nat×Bool)} {env:List (Nat×D)} {cs:List iJ} {R:Rows}
theorem No{x:bc}(eh:bm P x)(hf:x.f=f)(hy:f<YB)(ht:look env t=.gx f cs)
 (h:BN P ⟨some 0,.call ⟨.value (.func f),Et args cs.length,dv⟩,type,pos',after,guard⟩ (cq (Gj (jz args.toList) cs++env)) R ks val R'):BN P ⟨dst,.call ⟨.value (.tmp t),args,dv⟩,type,pos',after,guard⟩ (cq env) R ks val R':=by
 intro c w a hm hb hR fe K Q hK
 have h1:=fe (.tmp t) (by simp[Op.operands,Call.operands])
 simp only[cq,ht]at h1
 obtain⟨us,⟨_,hv⟩|⟨gz,_⟩,hc⟩:=h1
 rotate_left
 ·exact absurd hy (Nat.not_lt.2 gz)
 have hl:us.length=cs.length:=hc.length
 refine zaz (λaz w=>by rw[<-hf];exact eh.enters (by rw[hf];exact hy) az w) hv ?_
 rw[hl]
 refine h c w _ hm hb hR (λy hy=>?_) _ _ λv w' c' hn j8 hr=>?_
 ·have gh:∀x∈args.toList,Rep c w (cq env x) (a.eval x):=λy hy=>fe y (by simp[Op.operands,Call.operands];exact .inr (by simpa using hy))
  simp only[Op.operands,Call.operands]at hy
  rcases Array.mem_append.1 hy with hy|hy
  ·simp at hy;subst hy;exact Kp _
  ·exact BM gh hc y (by simpa using hy)
 ·have bg:0<(tJ a (jz args.toList) us).tmps.size:=by have:=Wt (l:=args.toList);simp[tJ];omega
  have:((tJ a (jz args.toList) us).put (some 0) v).tmps.getD 0 undef=v:=by
   simp only[Act.put]
   simp[aY,bg]
  show K (a.put dst (((tJ a (jz args.toList) us).put (some 0) v).tmps.getD 0 undef)) w'
  rw[this]
  exact hK v w' c' hn j8 hr
theorem Zry{K:D->Rows->Prop}(hG:jF P G)(lQ:pr G f=none)(ht:look env t=.gx f cs)(h:Kw G f (args.toList.map (cq env)++cs.map iJ.d) R K):∃val R',K val R'/\BN P ⟨dst,.call ⟨.value (.tmp t),args,dv⟩,type,pos',after,guard⟩ (cq env) R [] val R':=by
 rw[<-Zcr]at h
 obtain⟨val,R',x,h1,h2,h3,_⟩:=Wv (dst:=some 0) (dv:=dv) (type:=type) (pos':=pos') (after:=after) (guard:=guard) hG lQ h
 obtain⟨eh,hf⟩:=Gk hG h2
 have wq:x.gone=none:=by simpa[pr,h2]using lQ
 exact⟨val,R',h1,No eh hf (by rw[<-hf];exact eh.real wq) ht h3.toK⟩
theorem qb{K:List Nat->D->Rows->Prop}(hG:jF P G)(se:(bN f YB||Nat.beq args.size 1)=true)(lQ:pr G f=some k)(ht:look env t=.gx f cs)(h:H2 G M f k (args.toList.map (cq env)++cs.map iJ.d) R K):∃ks val R',K ks val R'/\(∀j,cw j ks=true->M<=j)/\BN P ⟨dst,.call ⟨.value (.tmp t),args,dv⟩,type,pos',after,guard⟩ (cq env) R ks val R':=by
 rw[<-Zcr]at h
 by_cases hy:f<YB
 ·obtain⟨ks,val,R',x,h1,h2,h3,h4,h5⟩:=Zqg hG hy (dst:=some 0) (dv:=dv) (type:=type) (pos':=pos') (after:=after) (guard:=guard) lQ h
  obtain⟨eh,hf⟩:=Gk hG h2
  exact⟨ks,val,R',h1,h4,No eh hf hy ht h5⟩
 ·obtain⟨ks,val,R',x,h1,h2,h3,h4,h5⟩:=Ww hG lQ h
  refine⟨ks,val,R',h1,h4,λc w a hm hb hR fe K' Q ry=>?_⟩
  have h1:=fe (.tmp t) (by simp[Op.operands,Call.operands])
  simp only[cq,ht]at h1
  obtain⟨us,⟨bg,_⟩|⟨gz,l,rec,hv,hI,hl,mZ⟩,hc⟩:=h1
  ·exact absurd bg hy
  have gh:∀x∈args.toList,Rep c w (cq env x) (a.eval x):=λy hy=>fe y (by simp[Op.operands,Call.operands];exact .inr (by simpa using hy))
  have hlen:us.length=cs.length:=hc.length
  have jd:(args.toList.map a.eval).length=1:=by
   rcases Bool.or_eq_true_iff.1 se with e|e
   ·exact absurd (lE e) hy
   ·simpa using bE e
  have gd:(args.toList.map a.eval).length=rec.params.size:=by
   obtain⟨_,_,y,_,hp,_,_,_,h1,_⟩:=mZ
   rw[hp,h1];exact jd
  exact yG hv hl gd ((h5 c w (tJ a (jz args.toList) us).eval hm hb hR (λy hy=>BM gh hc y hy) (λv w'=>K' (a.put dst v) w') λv w' c'=>ry v w' c').2 (Nat.le_of_not_lt hy) l rec (args.toList.map a.eval) us (by rw[<-hlen,Z1l]) hI hl mZ jd)
end
def pS(P:Program)(G:List bc)(M:Nat)(o:Oper)(ev:Operand->D)(R:Rows)(ks:List Nat)(val:D)(R':Rows):Prop:=
 if sk G o.op=true then(∀k,cw k ks=true->M<=k)/\BN P o ev R ks val R' else ks=[]/\pW P o ev R val R'
theorem pS.toK(h:pS P G M o ev R ks val R'):(∀k,cw k ks=true->M<=k)/\BN P o ev R ks val R':=by
 unfold pS at h
 split at h
 ·exact h
 ·obtain⟨rfl,h⟩:=h
  exact⟨λk hk=>by simp[cw]at hk,h.toW.toK⟩
theorem AX(hw:sk G o.op=false)(h:pW P o ev R val R'):pS P G M o ev R [] val R':=by
 unfold pS;rw[hw];exact⟨rfl,h⟩
theorem BO(hw:sk G o.op=true)(hk:∀k,cw k ks=true->M<=k)(h:BN P o ev R ks val R'):pS P G M o ev R ks val R':=by
 unfold pS;rw[if_pos hw];exact⟨hk,h⟩
def nK(P:Program)(G:List bc)(M:Nat)(ops:Array Oper)(o:Oper)(env:List (Nat×D))(R:Rows)(ks:List Nat)(val:D)(R':Rows):Prop:=
 match o.guard with
 |none=>pS P G M o (cq env) R ks val R'
 |some (j,want)=>∃g,(ops[j]?).bind (·.dst)=some g/\((∃b,look env g=.bool b/\(if b=want then pS P G M o (cq env) R ks val R' else ks=[]/\val=.ee []/\R'=R))\/(look env g=.ee []/\ks=[]/\val=.ee []/\R'=R))
theorem oU{K:St->Prop}(h:st.put N dst d R K):(∀t,dst=some t->t<N)/\K ⟨sj st.env dst d,R⟩:=by
 cases dst with
 |none=>exact⟨λt h=>(by cases h),h⟩
 |some t=>
  simp only[St.put,dm]at h
  refine⟨λs hs=>?_,h.2⟩
  cases hs
  exact lE h.1
theorem zb(d:D):d.kill []=d:=by
 cases d with
 |agg cs=>show D.agg (D.kF [] cs)=_;rw[Wx]
 |gx f cs=>exact Wy (.gx f cs)
 |_=>rfl
theorem Ziz:∀{ds:List D},D.pX [] ds=ds
 |[]=>rfl
 |d::l=>by simp[D.pX,zb,Ziz (ds:=l)]
theorem yb(d:D):d.gy []=d:=by
 cases d with
 |ee ds=>show D.ee (D.pX [] ds)=_;rw[Ziz]
 |agg cs=>exact zb (.agg cs)
 |gx f cs=>exact Wy (.gx f cs)
 |_=>rfl
theorem oQ{env:List (Nat×D)}{t:Nat}:look (si [] env) t=look env t:=by rw[BP,yb]
theorem Zps(hT:jm P T)(hG:jF P G){K:St->Prop}(h:lR T G N M o st K):
 ∃ks val R' iM,(∀t,look iM t=look (si ks st.env) t)/\(∀t,o.dst=some t->t<N)/\K ⟨sj iM o.dst val,R'⟩/\pS P G M o (cq st.env) st.rows ks val R':=by
 have plain:(sk G o.op=Gl o.op)->(im T o.op (cq st.env) st.rows λd R=>st.put N o.dst d R K)->∃ks val R' iM,(∀t,look iM t=look (si ks st.env) t)/\(∀t,o.dst=some t->t<N)/\K ⟨sj iM o.dst val,R'⟩/\pS P G M o (cq st.env) st.rows ks val R':=by
  intro hw h
  obtain⟨val,R',hK,hO⟩:=Np hT o _ _ _ h
  obtain⟨h1,h2⟩:=oU hK
  refine⟨[],_,_,st.env,λt=>oQ.symm,h1,h2,?_⟩
  split at hO
  ·rename_i hs
   exact BO (hw.trans hs) (λk hk=>by simp[cw]at hk) hO.toK
  ·rename_i hs
   exact AX (by rw[hw];simpa using hs) hO
 unfold lR at h
 split at h
 ·rename_i cc x y ho
  split at h
  ·rename_i b hb
   have hw:sk G o.op=false:=by rw[ho];rfl
   have go:∀z,z∈o.op.operands->(∀c w (a:Act),Rep c w (cq st.env cc) (a.eval cc)->(execOp a.eval o).run P w=.ok (.value (a.eval z)) w)->(cq st.env z).force (λd=>st.put N o.dst d st.rows K)->
    ∃ks val R' iM,(∀t,look iM t=look (si ks st.env) t)/\(∀t,o.dst=some t->t<N)/\K ⟨sj iM o.dst val,R'⟩/\pS P G M o (cq st.env) st.rows ks val R':=by
    intro z hz iy h
    rw[D.dd]at h
    obtain⟨h1,h2⟩:=oU h
    exact⟨[],_,_,st.env,λt=>oQ.symm,h1,h2,AX hw (mK λc w a hm hA fe=>⟨_,iy c w a (fe cc (by rw[ho];simp[Op.operands])),fe z hz⟩)⟩
   cases b with
   |true=>
    refine go x (by rw[ho];simp[Op.operands]) (λc w a hc=>?_) h
    rw[hb]at hc
    simp only[execOp,ho,Rep.bool.1 hc,asBool,Sem.run_bind,Sem.run_pure,Result.andThen_ok,if_true]
   |false=>
    refine go y (by rw[ho];simp[Op.operands]) (λc w a hc=>?_) h
    rw[hb]at hc
    simp only[execOp,ho,Rep.bool.1 hc,asBool,Sem.run_bind,Sem.run_pure,Result.andThen_ok,aA,if_false]
  ·exact h.elim
 ·rename_i f args dv ho
  obtain⟨dst,op,type,pos,after,guard⟩:=o
  simp only at ho
  subst ho
  split at h
  ·rename_i lQ
   split at h
   rotate_left
   ·rename_i Ev
    obtain⟨ks,val,R',x,hK,hx,hM,hO⟩:=zS (dst:=dst) (type:=type) (pos':=pos) (after:=after) (guard:=guard) (dv:=dv) hG lQ h
    rw[H3]at hK
    obtain⟨h1,h2⟩:=oU hK
    refine⟨ks,_,_,_,λt=>rfl,h1,h2,BO ?_ hM hO⟩
    have Ev:x.pw=true:=by simpa[BQ,hx]using Ev
    cases pT:x.refs with
    |nil=>simp only[sk,hx,pT,Ev]
    |cons b bs=>simp only[sk,hx,pT]
   rename_i Ev
   have H4:∀x,oV G f=some x->x.pw=false:=λx hx=>by simpa[BQ,hx]using Ev
   obtain⟨val,R',x,hK,hx,hO,hN⟩:=Wv (dst:=dst) (type:=type) (pos':=pos) (after:=after) (guard:=guard) (dv:=dv) hG lQ h
   obtain⟨h1,h2⟩:=oU hK
   refine⟨[],_,_,st.env,λt=>oQ.symm,h1,h2,?_⟩
   cases hr:x.refs with
   |nil=>exact AX (by simp only[sk,hx,hr,H4 x hx]) (hN hr)
   |cons b bs=>exact BO (by simp only[sk,hx,hr]) (λk hk=>by simp[cw]at hk) hO.toK
  ·rename_i k lQ
   obtain⟨hy,h⟩:=dm.1 h
   obtain⟨ks,val,R',x,hK,hx,hr,hM,hO⟩:=Zqg hG (lE hy) (dst:=dst) (type:=type) (pos':=pos) (after:=after) (guard:=guard) (dv:=dv) lQ h
   rw[H3]at hK
   obtain⟨h1,h2⟩:=oU hK
   refine⟨ks,_,_,_,λt=>rfl,h1,h2,BO ?_ hM hO⟩
   cases pT:x.refs with
   |nil=>exact(hr pT).elim
   |cons b bs=>simp only[sk,hx,pT]
 ·rename_i t args dv ho
  obtain⟨dst,op,type,pos,after,guard⟩:=o
  simp only at ho
  subst ho
  split at h
  ·rename_i f cs ht
   split at h
   ·rename_i lQ
    split at h
    ·obtain⟨val,R',hK,hO⟩:=Zry (dst:=dst) (type:=type) (pos':=pos) (after:=after) (guard:=guard) (dv:=dv) hG lQ ht h
     obtain⟨h1,h2⟩:=oU hK
     exact⟨[],_,_,st.env,λt=>oQ.symm,h1,h2,BO rfl (λk hk=>by simp[cw]at hk) hO⟩
    ·exact h.elim
   ·rename_i k lQ
    obtain⟨se,h⟩:=dm.1 h
    obtain⟨ks,val,R',hK,hM,hO⟩:=qb (dst:=dst) (type:=type) (pos':=pos) (after:=after) (guard:=guard) (dv:=dv) hG se lQ ht h
    rw[H3]at hK
    obtain⟨h1,h2⟩:=oU hK
    exact⟨ks,_,_,_,λt=>rfl,h1,h2,BO rfl hM hO⟩
  ·exact h.elim
 ·rename_i args dv ho
  obtain⟨dst,op,type,pos,after,guard⟩:=o
  simp only at ho
  subst ho
  split at h
  ·rename_i x y t tx hx ht
   have gh:args= #[x,y]:=by rw[<-bW (xs:=args),hx]
   have uo:dv= #[t,tx]:=by rw[<-bW (xs:=dv),ht]
   subst gh;subst uo
   obtain⟨ks,R',hK,hM,hr⟩:=Zpb (ty:=type) hT h
   rw[H3]at hK
   obtain⟨h1,h2⟩:=oU hK
   refine⟨ks,_,_,_,λt=>rfl,h1,h2,BO rfl hM λc w a hm hb hR fe K' Q ry=>?_⟩
   obtain⟨v',w',c',iy,hn,j8,hv⟩:=hr c w _ _ hm hb hR (fe x (by simp[Op.operands,Call.operands])) (fe y (by simp[Op.operands,Call.operands]))
   refine Gm ?_ (ry v' w' c' hn j8 hv)
   simp only[execOp,resolve,Sem.run_bind,Sem.run_pure,Result.andThen_ok,invoke,builtin]
   have:(#[x,y]:Array Operand).map a.eval= #[a.eval x,a.eval y]:=by simp
   rw[this,iy];rfl
  ·exact h.elim
 ·rename_i args dv ho
  obtain⟨dst,op,type,pos,after,guard⟩:=o
  simp only at ho
  subst ho
  split at h
  ·rename_i x y t tx hx ht
   have gh:args= #[x,y]:=by rw[<-bW (xs:=args),hx]
   have uo:dv= #[t,tx]:=by rw[<-bW (xs:=dv),ht]
   subst gh;subst uo
   obtain⟨val,R',hK,hr⟩:=za (ty:=type) hT h
   obtain⟨h1,h2⟩:=oU hK
   refine⟨[],_,_,st.env,λt=>oQ.symm,h1,h2,BO rfl (λk hk=>by simp[cw]at hk) (Ew.toK λc w a hm hb hR fe K' Q ry=>?_)⟩
   obtain⟨v',w',c',iy,hn,j8,hv⟩:=hr c w _ _ hm hR (fe x (by simp[Op.operands,Call.operands])) (fe y (by simp[Op.operands,Call.operands]))
   refine Gm ?_ (ry v' w' c' hn j8 hv)
   simp only[execOp,resolve,Sem.run_bind,Sem.run_pure,Result.andThen_ok,invoke,builtin]
   have:(#[x,y]:Array Operand).map a.eval= #[a.eval x,a.eval y]:=by simp
   rw[this,iy];rfl
  ·exact h.elim
 ·rename_i args dv ho
  split at h
  ·rename_i x y hx
   obtain⟨val,hK,hr⟩:=Zoz h
   obtain⟨h1,h2⟩:=oU hK
   refine⟨[],_,_,st.env,λt=>oQ.symm,h1,h2,AX (by rw[ho];rfl) (mK λc w a hm hA fe=>?_)⟩
   have gh:args= #[x,y]:=by rw[<-bW (xs:=args),hx]
   subst gh
   obtain⟨u,hu,hv⟩:=hr P c w _ _ (fe x (by rw[ho];simp[Op.operands,Call.operands])) (fe y (by rw[ho];simp[Op.operands,Call.operands]))
   refine⟨u,?_,hv⟩
   simp only[execOp,ho,resolve,Sem.run_bind,Sem.run_pure,Result.andThen_ok,invoke,builtin]
   have:(#[x,y]:Array Operand).map a.eval= #[a.eval x,a.eval y]:=by simp
   rw[this]
   have hu:=hu.1 rfl dv o.type
   rw[hu];rfl
  ·exact h.elim
 ·rename_i args dv ho
  split at h
  ·rename_i x y hx
   obtain⟨val,hK,hr⟩:=Zoz h
   obtain⟨h1,h2⟩:=oU hK
   refine⟨[],_,_,st.env,λt=>oQ.symm,h1,h2,AX (by rw[ho];rfl) (mK λc w a hm hA fe=>?_)⟩
   have gh:args= #[x,y]:=by rw[<-bW (xs:=args),hx]
   subst gh
   obtain⟨u,hu,hv⟩:=hr P c w _ _ (fe x (by rw[ho];simp[Op.operands,Call.operands])) (fe y (by rw[ho];simp[Op.operands,Call.operands]))
   refine⟨u,?_,hv⟩
   simp only[execOp,ho,resolve,Sem.run_bind,Sem.run_pure,Result.andThen_ok,invoke,builtin]
   have:(#[x,y]:Array Operand).map a.eval= #[a.eval x,a.eval y]:=by simp
   rw[this]
   have hu:=hu.2 rfl dv o.type
   rw[hu];rfl
  ·exact h.elim
 ·rename_i s d x ho
  split at h
  ·rename_i e _ _ _ _ _ _ hs
   obtain⟨val,hK,hr⟩:=zG hT hs h
   obtain⟨h1,h2⟩:=oU hK
   refine⟨[],_,_,st.env,λt=>oQ.symm,h1,h2,AX (by rw[ho];rfl) (mK λc w a hm hA fe=>?_)⟩
   obtain⟨u,hu,hv⟩:=hr c w _ hm hA (fe x (by rw[ho];simp[Op.operands]))
   refine⟨u,?_,hv⟩
   simp only[execOp,ho]
   rw[Sem.run_bind,hu];rfl
  ·rw[<-ho]at h
   exact plain (by rw[ho];rfl) h
 ·rename_i op t x y ty ho
  split at h
  ·rename_i s es fr hx hy
   obtain⟨hK,hr⟩:=xG hT h
   obtain⟨h1,h2⟩:=oU hK
   refine⟨[],_,_,st.env,λt=>oQ.symm,h1,h2,AX (by rw[ho];rfl) (mK λc w a hm hA fe=>?_)⟩
   have q1:=fe x (by rw[ho];simp[Op.operands])
   have q2:=fe y (by rw[ho];simp[Op.operands])
   rw[hx]at q1;rw[hy]at q2
   obtain⟨u,hu,hv⟩:=hr s fr c w _ _ q1 q2
   refine⟨u,?_,hv⟩
   simp only[execOp,ho]
   rw[Sem.run_bind,hu x y];rfl
  ·rename_i r hx hy
   split at h
   ·rename_i bx jZ ka es hR
    obtain⟨hK,hr⟩:=ya hT hR h
    obtain⟨h1,h2⟩:=oU hK
    refine⟨[],_,_,st.env,λt=>oQ.symm,h1,h2,AX (by rw[ho];rfl) (mK λc w a hm hA fe=>?_)⟩
    have q1:=fe x (by rw[ho];simp[Op.operands])
    have q2:=fe y (by rw[ho];simp[Op.operands])
    rw[hx]at q1;rw[hy]at q2
    obtain⟨u,hu,hv⟩:=hr c w _ _ hm hA q1 q2
    refine⟨u,?_,hv⟩
    simp only[execOp,ho]
    rw[Sem.run_bind,hu x y];rfl
   ·exact h.elim
  ·rw[<-ho]at h
   exact plain (by rw[ho];rfl) h
 ·rename_i op n1 n2 n9 n3 n4 n5 n6 n7 n8
  refine plain ?_ h
  unfold sk
  split
  ·rename_i rS;rw[rS];rfl
  ·rename_i rS;exact(n2 _ _ _ rS).elim
  ·rename_i rS;exact(n9 _ _ _ rS).elim
  ·rename_i rS;exact(n3 _ _ rS).elim
  ·rename_i rS;exact(n4 _ _ rS).elim
  ·rename_i m1 m2 m5 m3 m4
   cases rS:o.op<;>first|rfl|exact(m1 _ _ _ rS).elim
theorem SN(h:look st.env g=.bool b)(t:Nat):look (st.j0 (.tmp g) b).env t=look st.env t:=by
 simp only[St.j0,AV]
 split
 ·rename_i e;subst e;exact h.symm
 ·rfl
theorem Ztn{env mo:List (Nat×D)}(h:∀t,look mo t=look env t):cq mo=cq env:=by
 funext x;cases x<;>first|exact h _|rfl
theorem Wc(hT:jm P T)(hG:jF P G){l:List Oper}{K:St->Prop}(h:mb T G N M ops (o::l) st K):
 ∃ks val R' iM,(∀t,look iM t=look (si ks st.env) t)/\(∀t,o.dst=some t->t<N)/\nK P G M ops o st.env st.rows ks val R'/\mb T G N M ops l ⟨sj iM o.dst val,R'⟩ K:=by
 simp only[mb]at h
 split at h
 ·rename_i hg
  obtain⟨ks,val,R',iM,h0,h1,h2,h3⟩:=Zps hT hG h
  exact⟨ks,val,R',iM,h0,h1,by unfold nK;rw[hg];exact h3,h2⟩
 ·rename_i j want hg
  split at h
  ·rename_i g hd
   split at h
   ·rename_i b hb
    have yes:∀b',b'=b->lR T G N M o (st.j0 (.tmp g) b') (λst=>mb T G N M ops l st K)->b=want->∃ks val R' iM,(∀t,look iM t=look (si ks st.env) t)/\(∀t,o.dst=some t->t<N)/\nK P G M ops o st.env st.rows ks val R'/\mb T G N M ops l ⟨sj iM o.dst val,R'⟩ K:=by
     intro b' e hh hw
     subst e
     obtain⟨ks,val,R',iM,h0,h1,h2,h3⟩:=Zps hT hG hh
     rw[Ztn (SN hb)]at h3
     refine⟨ks,val,R',iM,λt=>by rw[h0,BP,BP,SN hb],h1,?_,h2⟩
     unfold nK;rw[hg]
     exact⟨g,hd,.inl ⟨_,hb,by rw[if_pos hw];exact h3⟩⟩
    have no:∀b',b'=b->(st.j0 (.tmp g) b').put N o.dst (.ee []) st.rows (λst=>mb T G N M ops l st K)->b≠want->∃ks val R' iM,(∀t,look iM t=look (si ks st.env) t)/\(∀t,o.dst=some t->t<N)/\nK P G M ops o st.env st.rows ks val R'/\mb T G N M ops l ⟨sj iM o.dst val,R'⟩ K:=by
     intro b' e hh hw
     subst e
     obtain⟨h1,h2⟩:=oU hh
     refine⟨[],_,_,_,λt=>by rw[oQ,SN hb],h1,?_,h2⟩
     unfold nK;rw[hg]
     exact⟨g,hd,.inl ⟨_,hb,by rw[if_neg hw];exact⟨rfl,rfl,rfl⟩⟩⟩
    cases b<;>cases want<;>simp only[Aj]at h
    ·exact yes _ rfl h rfl
    ·exact no _ rfl h (by simp)
    ·exact no _ rfl h (by simp)
    ·exact yes _ rfl h rfl
   ·rename_i hb
    obtain⟨h1,h2⟩:=oU h
    refine⟨[],_,_,st.env,λt=>oQ.symm,h1,?_,h2⟩
    unfold nK;rw[hg]
    exact⟨g,hd,.inr ⟨hb,rfl,rfl,rfl⟩⟩
   ·exact h.elim
  ·exact h.elim
theorem SI{c:Ctx}(hg:o.guard=some (j,want))(hd:(ops[j]?).bind (·.dst)=some g)(h:Rep c w (.ee []) (a.tmps.getD g undef)):
 Region.wanted o (yielded ops a.tmps)=false:=by
 obtain⟨vs,hv,BR⟩:=h
 have hy:yielded ops a.tmps j=none:=by
  simp only[yielded,hd,aW]
  cases hx:a.tmps[g]? with
  |none=>rfl
  |some v=>
   have:a.tmps.getD g undef=v:=by simp[hx]
   rw[this]at hv
   rw[hv]
 unfold Region.wanted
 rw[hg]
 simp only[hy]
 rfl
theorem SH(c:Ctx)(w:World):Rep c w (.ee []) undef:=⟨[],rfl,trivial⟩
theorem SJ{c:Ctx}(hg:o.guard=some (j,want))(hd:(ops[j]?).bind (·.dst)=some g)(h:Rep c w (.bool b) (a.tmps.getD g undef)):
 Region.wanted o (yielded ops a.tmps)=decide (b=want):=by
 have hv:=Rep.bool.1 h
 have ht:a.tmps[g]?=some (.bool b):=by
  cases hx:a.tmps[g]? with
  |none=>simp[hx,undef]at hv
  |some v=>simp[hx]at hv;rw[hv]
 unfold Region.wanted
 simp only[hg,yielded,hd,aW,ht]
 cases b<;>cases want<;>rfl
def wpOp(P:Program)(ops:Array Oper)(Q:Exit->Act->World->Prop)(i:Nat)(K:Act->World->Prop)(a:Act)(w:World):Prop:=
 match ops[i]? with
 |none=>K a w
 |some o=>if Region.wanted o (yielded ops a.tmps)then o.nu P a w K Q else K (a.put o.dst undef) w
def Kx(P:Program)(ops:Array Oper)(Q:Exit->Act->World->Prop):List Nat->Act->World->Prop
 |[],a,w=>Q .normal a w
 |i::rest,a,w=>wpOp P ops Q i (Kx P ops Q rest) a w
theorem Zco(i:Nat)(rest:List Nat)(a:Act)(w:World):Kx P ops Q (i::rest) a w=wpOp P ops Q i (Kx P ops Q rest) a w:=rfl
def HX(P:Program)(md:Region.Mode)(ops:Array Oper)(Q:Exit->Act->World->Prop):Nat->Array Bool->Act->World->Prop
 |0,ar,a,w=>Region.ready md ops ar=[]/\Q .normal a w
 |fuel+1,ar,a,w=>
  (Region.ready md ops ar=[]->Q .normal a w)/\
  ∀i∈Region.ready md ops ar,wpOp P ops Q i (HX P md ops Q fuel (ar.setIfInBounds i true)) a w
abbrev AY(ro:Option Nat):Fence:={Fence.wide with round:=ro}
theorem yX{P:Program}{ro:Option Nat}{o:Oper}{a:Act}{w:World}{K:Act->World->Prop}{Q Q':Exit->Act->World->Prop}(h:o.nu P a w K Q):o.wpIn (AY ro) 0 P a w K Q':=by
 refine⟨λ_ _=>trivial,?_⟩
 have hd:∀c,o.op≠.defer c:=by
  intro c hc
  unfold Oper.nu at h
  simp only[execOp,hc,Sem.run_bind]at h
  revert h
  cases(resolve a.eval c o.type).run P w with
  |halt _ _=>exactλh=>h
  |ok d w'=>exactλh=>h
 rw[Oper.semAt_eq _ _ _ hd]
 unfold Oper.nu at h
 revert h
 generalize(execOp a.eval o).run P w=r
 intro h
 cases r with
 |halt _ _=>exact h.elim
 |ok n w'=>
  cases n with
  |value v=>exact h
  |skip=>exact h
  |enter f args=>
   refine⟨λe=>(by cases e),?_⟩
   refine CallsIn.mono (F:=Fence.wide) (callsIn_wide.2 h) λe w' ⟨v,he,hk⟩=>?_
   subst he;exact hk
  |round l f tmps assign body=>
   refine⟨λe=>(by cases e),?_⟩
   refine RoundIn.mono (F:=Fence.wide) h λe w' ⟨v,he,hk⟩=>?_
   subst he;exact hk
  |_=>exact h.elim
theorem SO{P:Program}{ro:Option Nat}{ops:Array Oper}{Q:Exit->Act->World->Prop}:∀{l:List Nat} {a:Act} {w:World},Kx P ops Q l a w->wpOpsIn (AY ro) 0 P ops Q l a w
 |[],_,_,h=>h
 |i ::l,a,w,h=>by
  rw[Zco]at h
  unfold wpOp at h
  unfold wpOpsIn
  split
  ·rename_i ho;simp only[ho]at h;exact SO h
  ·rename_i o ho
   simp only[ho]at h
   split
   ·rename_i hw;rw[if_pos hw]at h;exact yX (Q:=Q) (Zh (Q':=Q) (λa w h=>SO h) h)
   ·rename_i hw;rw[if_neg hw]at h;exact⟨λ_ _=>trivial,SO h⟩
theorem SP{P:Program}{ro:Option Nat}{md:Region.Mode}{ops:Array Oper}{Q:Exit->Act->World->Prop}:∀{n:Nat} {ar:Array Bool} {a:Act} {w:World},HX P md ops Q n ar a w->wpAnyIn (AY ro) 0 P md ops Q n ar a w
 |0,_,_,_,h=>h
 |n +1,ar,a,w,h=>by
  refine⟨h.1,λi hi=>?_⟩
  have h:=h.2 i hi
  unfold wpOp at h
  unfold wpOpIn
  split
  ·rename_i ho;simp only[ho]at h;exact SP h
  ·rename_i o ho
   simp only[ho]at h
   split
   ·rename_i hw;rw[if_pos hw]at h;exact yX (Q:=Q) (Zh (Q':=Q) (λa w h=>SP h) h)
   ·rename_i hw;rw[if_neg hw]at h;exact⟨λ_ _=>trivial,SP h⟩
theorem Zkk(h:Kx P ops Q (List.range ops.size) a w):(Code.region id ops false).wpIn (AY ro) 0 P Q a w:=wpIn_region (SO h)
theorem Qxx(hm:P.follows .mixedOrders=true)
 (h:HX P .any ops Q ops.size (Array.replicate ops.size false) a {w with drawn:=w.drawn+1}):(Code.region id ops true).wpIn (AY ro) 0 P Q a w:=wpIn_region_any hm (SP h)
theorem vX{c0:Ctx}{c:Ctx}{iM:List (Nat×D)}(hi:ops[i]?=some o)
 (hs:fu N M c0 w0 c w st a) (h1:∀t,look iM t=look (si ks st.env) t) (hd:∀t,o.dst=some t->t<N) (hG:nK P G M ops o st.env st.rows ks val R') {K:Act->World->Prop} {Q:Exit->Act->World->Prop}
 (hK:∀a' w' c',fu N M c0 w0 c' w' ⟨sj iM o.dst val,R'⟩ a'->K a' w'):wpOp P ops Q i K a w:=by
 have fin:(∀k,cw k ks=true->M<=k)->∀(v:Value) (w':World) (c':Ctx),jP ks c w c' w'->(∀r,c'.R r=R'.getD r none)->Rep c' w' val v->K (a.put o.dst v) w':=λhM v w' c' hn hR hv=>by
  refine hK _ _ c' ⟨hn.mem,hR,?_,?_,?_,hs.gk,hs.ib,hs.reach.step hM hs.ib hn⟩
  ·exact Zbr hs.size hd (λt=>by rw[h1,BP];exact Ad hn.db (Wz (hs.env t))) hv
  ·cases ho:o.dst<;>simp[Act.put]<;>exact hs.size
  ·exact mf.put (hs.defers.step hs.mem hn.fr)
 have run:pS P G M o (cq st.env) st.rows ks val R'->o.nu P a w K Q:=λhX=>hX.toK.2 c w a hs.mem hs.base hs.rows (λx _=>Nl hs.env x) K Q (fin hX.toK.1)
 have skip:ks=[]->val=.ee []->R'=st.rows->K (a.put o.dst undef) w:=λe0 e1 e2=>by
  refine hK _ _ c ⟨hs.mem,by rw[e2];exact hs.rows,?_,?_,?_,hs.gk,hs.ib,hs.reach⟩
  ·exact Zbr hs.size hd (λt=>by rw[h1,e0,oQ];exact hs.env t) (by rw[e1];exact SH _ _)
  ·cases ho:o.dst<;>simp[Act.put]<;>exact hs.size
  ·exact mf.put hs.defers
 unfold wpOp
 simp only[hi]
 unfold nK at hG
 cases hg:o.guard with
 |none=>
  simp only[hg]at hG
  have hw:Region.wanted o (yielded ops a.tmps)=true:=by simp[Region.wanted,hg]
  rw[if_pos hw]
  exact run hG
 |some jw=>
  obtain⟨j,want⟩:=jw
  simp only[hg]at hG
  obtain⟨g,h2,⟨b,h3,h4⟩|⟨h3,e0,e1,e2⟩⟩:=hG
  rotate_left
  ·have hr:=hs.env g
   rw[h3]at hr
   rw[if_neg (by rw[SI (o:=o) hg h2 hr];simp)]
   exact skip e0 e1 e2
  have hr:=hs.env g
  rw[h3]at hr
  have hw:=SJ (o:=o) hg h2 hr
  by_cases e:b=want
  ·rw[if_pos e]at h4
   rw[if_pos (by rw[hw];simpa using e)]
   exact run h4
  ·rw[if_neg e]at h4
   rw[if_neg (by rw[hw];simpa using e)]
   exact skip h4.1 h4.2.1 h4.2.2
theorem qY{P:Program}{T:iG}(hT:jm P T){G:List bc}(hG:jF P G){N M:Nat}{ops:Array Oper}{c0:Ctx}{w0:World}{K:St->Prop}{Q:Exit->Act->World->Prop}(hQ:∀st c w a,K st->fu N M c0 w0 c w st a->Q .normal a w):
 ∀(l:List Oper) (k:Nat) (st:St) (c:Ctx) (w:World) (a:Act),ops.toList.drop k=l->mb T G N M ops l st K->fu N M c0 w0 c w st a->Kx P ops Q (bO k l.length) a w
 |[],k,st,c,w,a,_,h,hs=>hQ st c w a h hs
 |o ::l,k,st,c,w,a,hk,h,hs=>by
  have bg:k<ops.toList.length:=by
   by_cases bg:k<ops.toList.length
   ·exact bg
   ·rw[List.drop_eq_nil_of_le (by omega)]at hk;cases hk
  rw[List.drop_eq_getElem_cons bg]at hk
  have ho:ops[k]?=some o:=by
   have:=(List.cons.inj hk).1
   rw[<-this]
   simp at bg
   simp[bg]
  obtain⟨ks,val,R',iM,h1,h2,h3,h4⟩:=Wc hT hG h
  simp only[List.length_cons,List.range'_succ]
  rw[Zco]
  exact vX ho hs h1 h2 h3 λa' w' c' jb=>qY hT hG hQ l (k+1) _ c' w' a' (List.cons.inj hk).2 h4 jb
def mX:Exit->Option Ex
 |.normal=>some .normal
 |.exit i=>some (.exit i)
 |.ret=>some .ret
 |_=>none
def tZ(ro:Option Nat)(P:Program)(N M:Nat)(code:Code)(st:St)(Q:Ex->St->Prop):Prop:=
 ∀ (c0:Ctx) (w0:World) (c:Ctx) (w:World) (a:Act),fu N M c0 w0 c w st a->
  code.wpIn (AY ro) 0 P (λe a' w'=>∃ex jx c',mX e=some ex/\Q ex jx/\fu N M c0 w0 c' w' jx a') a w
abbrev Tr:=tZ none
def Ctx.pw(c:Ctx)(R:Rows)(ks:List Nat):Ctx:=
 {c with R:=λr=>if cw r ks=true then none else(c.R r).map (Row.mq R ks),I:=λb=>c.I b\/∃r row,cw r ks=true/\c.R r=some row/\¬c.V r/\c.ρ r=b}
section
variable {c:Ctx} {w:World} {R:Rows} {ks:List Nat}
theorem Zkt(R:Rows)(ks:List Nat)(row:Row):(row.mq R ks).box=row.box/\(row.mq R ks).ty=row.ty/\(row.mq R ks).sz=row.sz/\(row.mq R ks).es.l.length=row.es.l.length:=by
 unfold Row.mq;split<;>exact⟨rfl,rfl,rfl,rfl⟩
theorem Z57:∀{e:List D},(D.sC R ks e).length=e.length
 |[]=>rfl
 |d::l=>by simp[D.sC,Z57 (e:=l)]
theorem Zkc:jh (c.kill ks) w (c.pw R ks) w:=by
 refine⟨rfl,aX _,λb h=>⟨.inl h,rfl⟩,λr x hx=>?_⟩
 obtain⟨h1,row,h2,rfl⟩:=nn hx
 obtain⟨s1,s2,s3,s4⟩:=Zkt R ks row
 obtain⟨k1,k2,k3,k4⟩:=wo ks row
 refine⟨row.mq R ks,?_,s1.trans k1.symm,s2.trans k2.symm,s3.trans k3.symm,s4.trans k4.symm,rfl,Iff.rfl,λ_ arr h=>⟨arr,h,rfl⟩⟩
 show(if cw r ks=true then none else(c.R r).map (Row.mq R ks))=_
 rw[h1,h2];rfl
theorem Z26:∀{ds:List D} {arr:Array Value} {off:Nat},ds.all D.plain=true->kN c w ds arr off->oW c.I w ds arr off
 |[],_,_,_,_=>DH.2 trivial
 |d::ds,arr,off,hp,⟨⟨v,hv,h1⟩,h2⟩=>by
  rw[List.all_cons,aE]at hp
  exact DI.2 ⟨⟨v,hv,dk.plain hp.1 h1⟩,Z26 hp.2 h2⟩
variable (hm:Mem c w) (hA:∀r,c.R r=R.getD r none)
include hm hA
theorem WA(h:dk c w d v):dk (c.pw R ks) w (d.BS R ks) v:=by
 have H5:∀{d:D},dk c w d v->dk (c.pw R ks) w (d.ez ks) v:=λh=>SQ Zkc (SR h)
 cases d with
 |all r=>
  simp only[D.BS]
  cases hb:cw r ks with
  |false=>
   have:=H5 h
   simpa only[D.ez,hb]using this
  |true=>
   obtain⟨row,g1,g2,hv⟩:=h
   have hr:R.getD r none=some row:=by rw[<-hA r];exact g1
   obtain⟨box,ty,sz,es⟩:=row
   simp only at g2
   subst g2
   simp only[hr]
   rcases hv with⟨hV,a,hv,_⟩|⟨hV,cap,arr,hv,g3,g4,g5,g6⟩
   ·have he:=(hm.nH g1 hV).2.1
    simp only at he
    exact⟨a,0,by rw[he];exact hv,by rw[he];exact aX _,.inl he⟩
   ·obtain⟨iR,jH,hs,hx⟩:=hm.real g1 hV
    simp only at g5 jH hx
    rw[g5]at jH;cases jH
    simp only[aA,if_false]at hx
    exact⟨_,cap,hv,g3,.inr ⟨_,0,arr,_,_,rfl,.inr ⟨r,_,hb,g1,hV,rfl⟩,by simp,g5,nJ (λb hb=>⟨.inl hb,rfl⟩) _ _ _ _ hx⟩⟩
 |ptr r i off=>
  simp only[D.BS]
  cases hb:cw r ks with
  |false=>
   have:=H5 h
   simpa only[D.ez,hb]using this
  |true=>
   obtain⟨row,g1,g2,g3,hv⟩:=h
   have hr:R.getD r none=some row:=by rw[<-hA r];exact g1
   simp only
   split
   ·rename_i ty sz e he
    rw[he]at hr;cases hr
    split
    ·rename_i hp
     obtain⟨arr,ha,hs,hx⟩:=hm.real g1 g2
     simp only[if_true]at hx
     obtain⟨e',k1,k2,k3,k4⟩:=hx
     have k1:[e]=[e']:=by injection k1
     have k1:e=e':=(List.cons.inj k1).1
     subst k1
     refine⟨c.ρ r,0,arr,ty,(0,0),?_,.inr ⟨r,_,hb,g1,g2,rfl⟩,g3,ha,pY.2 ⟨k2,Znn (λb hb=>⟨.inl hb,rfl⟩) _ _ _ (Z26 hp k4),rz.2 trivial⟩⟩
     rw[hv];simp
    ·rw[hv];rfl
   ·rw[hv];rfl
 |_=>exact H5 h
theorem Zpz:∀{ds:List D} {vs:List Value},jr c w ds vs->jr (c.pw R ks) w (D.sC R ks ds) vs
 |[],[],_=>trivial
 |_::_,_::_,h=>⟨WA hm hA h.1,Zpz h.2⟩
 |[],_::_,h=>h.elim
 |_::_,[],h=>h.elim
theorem Zqc(h:VRep c w d v):VRep (c.pw R ks) w (d.H6 R ks) v:=by
 cases d with
 |agg cs=>obtain⟨vs,hv,hr⟩:=h;exact⟨vs,hv,Zpz hm hA hr⟩
 |_=>
  have:=WA (ks:=ks) hm hA (VRep.toC (λcs e=>by cases e) h)
  exact VRep.Eu this
theorem Zpn:∀{ds:List D} {vs:List Value},ki c w ds vs->ki (c.pw R ks) w (D.H7 R ks ds) vs
 |[],[],_=>trivial
 |_::_,_::_,h=>⟨Zqc hm hA h.1,Zpn h.2⟩
 |[],_::_,h=>h.elim
 |_::_,[],h=>h.elim
theorem vG(h:Rep c w d v):Rep (c.pw R ks) w (d.BT R ks) v:=by
 cases d with
 |ee ds=>obtain⟨vs,hv,hr⟩:=h;exact⟨vs,hv,Zpn hm hA hr⟩
 |dead=>trivial
 |_=>
  have:=Zqc (ks:=ks) hm hA (Rep.toV (λds e=>by cases e) (λe=>by cases e) h)
  exact Rep.Kv this
theorem Zi4:∀{ds:List D} {arr:Array Value} {off:Nat},kN c w ds arr off->kN (c.pw R ks) w (D.sC R ks ds) arr off
 |[],_,_,_=>trivial
 |_::_,_,_,⟨⟨v,hv,h1⟩,h2⟩=>⟨⟨v,hv,WA hm hA h1⟩,Zi4 h2⟩
theorem xab(h:Ey c w r row):Ey (c.pw R ks) w r (row.mq R ks):=by
 obtain⟨s1,s2,s3,s4⟩:=Zkt R ks row
 rcases h with⟨h0,h1,h2,h3⟩|⟨h0,arr,ha,hs,hx⟩
 ·refine .inl ⟨h0,s1.trans h1,?_,by rw[s3];exact h3⟩
  rw[h2]at s4;exact List.eq_nil_of_length_eq_zero s4
 ·refine .inr ⟨h0,arr,by rw[s2];exact ha,by rw[s3];exact hs,?_⟩
  rw[s1,s3]
  split
  ·rename_i hb
   simp only[hb,if_true]at hx
   obtain⟨e,k1,k2,k3,k4⟩:=hx
   obtain⟨box,ty,sz,es⟩:=row
   simp only at hb k1 k2 k3 k4
   subst hb;subst k1
   exact⟨D.sC R ks e,rfl,by rw[Z57];exact k2,k3,Zi4 hm hA k4⟩
  ·rename_i hb
   simp only[hb,aA,if_false]at hx
   have he:(row.mq R ks).es=row.es:=by
    unfold Row.mq
    split
    ·simp at hb
    ·rfl
   rw[he];exact nJ (λb hb=>⟨.inl hb,rfl⟩) _ _ _ _ hx
omit hm hA in
theorem Ky{x:Row}(h:(c.pw R ks).R r=some x):cw r ks=false/\∃row,c.R r=some row/\x=row.mq R ks:=by
 simp only[Ctx.pw]at h
 cases hb:cw r ks with
 |true=>rw[hb]at h;simp at h
 |false=>
  rw[hb]at h
  simp only[aA,if_false,Option.map_eq_some_iff]at h
  obtain⟨row,h1,h2⟩:=h
  exact⟨rfl,row,h1,h2.symm⟩
theorem qac:Mem (c.pw R ks) w:=by
 refine⟨λr x hx=>?_,λr s x y hx hy v1 v2 he=>?_,λb hb=>?_,hm.top,hm.j4.mono λb hb=>⟨.inl hb,rfl⟩⟩
 ·obtain⟨_,row,h1,rfl⟩:=Ky hx
  exact xab hm hA (hm.row r row h1)
 ·obtain⟨_,row,h1,_⟩:=Ky hx
  obtain⟨_,ao,h2,_⟩:=Ky hy
  exact hm.inj r s row ao h1 h2 v1 v2 he
 ·rcases hb with hb|⟨s,row,h1,h2,h3,rfl⟩
  ·refine⟨(hm.fq b hb).1,λr x hx v=>?_⟩
   obtain⟨_,row,h1,_⟩:=Ky hx
   exact(hm.fq b hb).2 r row h1 v
  ·refine⟨hm.lt h2 h3,λr x hx v e=>?_⟩
   obtain⟨h4,ao,h5,_⟩:=Ky hx
   have:=hm.inj r s ao row h5 h2 v h3 e
   rw[this,h1]at h4;cases h4
end
theorem Zbf{R0:Rows}{ks:List Nat}:∀{R:Rows} {i r:Nat},(Kz R0 ks R i).getD r none=if cw (i+r) ks=true then none else(R.getD r none).map (Row.mq R0 ks)
 |[],i,r=>by simp[Kz]
 |x::l,i,0=>by
  simp only[Kz,aB]
  cases cw i ks<;>cases x<;>simp
 |x::l,i,r+1=>by
  have:=Zbf (R0:=R0) (ks:=ks) (R:=l) (i:=i+1) (r:=r)
  rw[show i+1+r=i+(r+1) by omega]at this
  simpa[Kz]using this
def uq(R:Rows)(ks:List Nat)(env:List (Nat×D)):List (Nat×D):=env.map λx=>(x.1,x.2.BT R ks)
theorem Zq0{R:Rows}{ks:List Nat}:∀{env:List (Nat×D)} {K:List (Nat×D)->Prop},Ez R ks env K↔K (uq R ks env)
 |[],_=>Iff.rfl
 |(t,d)::l,K=>by
  simp only[Ez,D.dd]
  rw[Zq0 (env:=l) (K:=λl=>K ((t,d.BT R ks)::l))]
  rfl
theorem Zq1{R:Rows}{ks:List Nat}:∀{env:List (Nat×D)} {t:Nat},look (uq R ks env) t=(look env t).BT R ks
 |[],_=>rfl
 |(u,d)::l,t=>by
  simp only[uq,List.map_cons,look]
  split
  ·rfl
  ·exact Zq1 (env:=l)
theorem WB{M:Nat}{R:Rows}:∀{l:List Nat} {r:Nat},r∈ur M R l->M<=r
 |x ::l,r,h=>by
  simp only[ur]at h
  split at h
  ·rename_i hb
   rcases List.mem_cons.1 h with e|h
   ·rw[e];rw[aE]at hb;exact lE hb.1
   ·exact WB h
  ·exact WB h
theorem zac{c0:Ctx}{c:Ctx}{K:St->Prop}(h:H8 T G M ops st K)(hs:fu N M c0 w0 c w st a):∃jx c',K jx/\fu N M c0 w0 c' w jx a:=by
 unfold H8 at h
 split at h
 ·exact⟨st,c,h,hs⟩
 ·rename_i ks hk
  have hM:∀k,cw k (ur M st.rows (SS T G st.env st.rows [] [] ops.toList))=true->M<=k:=λk hk=>WB (oa.1 hk)
  generalize ur M st.rows (SS T G st.env st.rows [] [] ops.toList)=ks at*
  rw[Zq0,nA]at h
  have hm:=qac (ks:=ks) hs.mem hs.rows
  refine⟨_,c.pw st.rows ks,h,hm,λr=>?_,λt=>?_,hs.size,hs.defers,hs.gk,hs.ib,hs.reach.step (ks:=ks) hM hs.ib ⟨hm,Zkc,Fr.refl _ w,λb hb=>?_,λr ao hr hv=>?_⟩⟩
  ·rw[Zbf,bG,<-hs.rows r];rfl
  ·rw[Zq1];exact vG hs.mem hs.rows (hs.env t)
  ·rcases hb with hb|hb
   ·exact .inl hb
   ·exact .inr (.inl hb)
  ·obtain⟨_,row,h1,_⟩:=Ky hr
   exact .inl ⟨⟨row,h1⟩,hv,rfl⟩
theorem vb{c:Ctx}(hm:Mem c w){e e':List D}(hr:c.R r=some ⟨true,ty,sz,.gen [e]⟩)(hl:e'.length=e.length)(hc:∀arr,kN c w e arr 0->kN c w e' arr 0):jh c w (c.jV r ⟨true,ty,sz,.gen [e']⟩) w/\Mem (c.jV r ⟨true,ty,sz,.gen [e']⟩) w:=by
 have hg:jh c w (c.jV r ⟨true,ty,sz,.gen [e']⟩) w:=by
  refine⟨rfl,aX _,λb hb=>⟨hb,rfl⟩,λs x hs=>?_⟩
  by_cases e:s=r
  ·subst e
   rw[hr]at hs;cases hs
   exact⟨⟨true,ty,sz,.gen [e']⟩,by simp[Ctx.jV],rfl,rfl,rfl,rfl,rfl,Iff.rfl,λ_ a ha=>⟨a,ha,rfl⟩⟩
  ·exact⟨x,by simp[Ctx.jV,e,hs],rfl,rfl,rfl,rfl,rfl,Iff.rfl,λ_ a ha=>⟨a,ha,rfl⟩⟩
 have jI:∀s x,(c.jV r ⟨true,ty,sz,.gen [e']⟩).R s=some x->∃x',c.R s=some x':=λs x hs=>by
  by_cases e:s=r
  ·exact⟨_,by rw[e];exact hr⟩
  ·exact⟨x,by simpa[Ctx.jV,e]using hs⟩
 refine⟨hg,λs x hs=>?_,λs q x y hs hq v1 v2 he=>?_,λb iu=>⟨(hm.fq b iu).1,λs x hs hv=>?_⟩,hm.top,hm.j4⟩
 ·by_cases es:s=r
  ·subst es
   simp only[Ctx.jV,if_true,Option.some.injEq]at hs
   subst hs
   rcases hm.row _ _ hr with⟨g0,g1,g2,g3⟩|⟨g0,arr,g1,g2,g3⟩
   ·cases g1
   ·refine .inr ⟨g0,arr,g1,g2,?_⟩
    simp only[if_true]at g3⊢
    obtain⟨e0,q1,q2,q3,q4⟩:=g3
    cases q1
    exact⟨e',rfl,hl.trans q2,q3,Nq hg (hc arr q4)⟩
  ·have jb:c.R s=some x:=by simpa[Ctx.jV,es]using hs
   exact tE hg rfl Iff.rfl (λ_=>rfl) (hm.row s x jb)
 ·obtain⟨x',jO⟩:=jI s x hs
  obtain⟨y',Ah⟩:=jI q y hq
  exact hm.inj s q x' y' jO Ah v1 v2 he
 ·obtain⟨x',jO⟩:=jI s x hs
  exact(hm.fq b iu).2 s x' jO hv
theorem qc(h:uu T R i=some (ty,sz,e,n)):0<n/\∃d,R.getD i none=some ⟨true,ty,sz,.gen [[d]]⟩/\(d=.de\/d=.emp):=by
 unfold uu at h
 split at h
 ·rename_i jZ ka d hr
  have go:∀{x:Option (TypeId×Nat×TypeId×Nat)},x=some (ty,sz,e,n)->(x=match T.get jZ with|some ⟨.slice e n,_,_,_,_,_⟩=>(match bN 0 n with|true=>some (jZ,ka,e,n)|false=>none)|_=>none)->0<n/\jZ=ty/\ka=sz:=by
   intro x hx hy
   rw[hx]at hy
   split at hy
   ·split at hy
    ·rename_i hb;cases hy;exact⟨lE hb,rfl,rfl⟩
    ·cases hy
   ·cases hy
  split at h
  ·obtain⟨h1,rfl,rfl⟩:=go h rfl
   exact⟨h1,_,hr,.inl rfl⟩
  ·obtain⟨h1,rfl,rfl⟩:=go h rfl
   exact⟨h1,_,hr,.inr rfl⟩
  ·cases h
 ·cases h
theorem Gn{N M:Nat}{c0:Ctx}{w0:World}{w:World}{a:Act}{T:iG}{env:List (Nat×D)}{K:Rows->Prop}:∀{l:List iJ} {R:Rows} {c:Ctx},H9 T l env R K->fu N M c0 w0 c w ⟨env,R⟩ a->∃R' c',K R'/\fu N M c0 w0 c' w ⟨env,R'⟩ a
 |[],R,c,h,hs=>⟨R,c,h,hs⟩
 |.int _ _::l,R,c,h,hs=>Gn (l:=l) h hs
 |.arr _::l,R,c,h,hs=>Gn (l:=l) h hs
 |.sl _ _ _::l,R,c,h,hs=>Gn (l:=l) h hs
 |.fn _ _::l,R,c,h,hs=>Gn (l:=l) h hs
 |.ptr i _ _::l,R,c,h,hs=>by
  simp only[H9]at h
  split at h
  rotate_left
  ·exact Gn (l:=l) h hs
  rename_i ty sz u n hr
  obtain⟨h0,d,h2,hd⟩:=qc hr
  simp only[nA,KA]at h
  have bg:i<R.length:=by
   by_cases bg:i<R.length
   ·exact bg
   ·rw[aV,aJ (by omega)]at h2;cases h2
  rw[List.set_append_left _ _ bg]at h
  have hi:c.R i=some ⟨true,ty,sz,.gen [[d]]⟩:=by rw[hs.rows];exact h2
  have hn:c.R R.length=none:=by rw[hs.rows,aV,aJ (aX _)];rfl
  have ia:i≠R.length:=by omega
  have Ia:=WC hs.mem hn (row:=⟨false,u,n,.gen []⟩) rfl rfl h0
  have WD:=SU (w:=w) hn ⟨false,u,n,.gen []⟩
  have WE:(c.jA R.length ⟨false,u,n,.gen []⟩).R i=some ⟨true,ty,sz,.gen [[d]]⟩:=by simp[Ctx.jA,ia,hi]
  obtain⟨WG,BU⟩:=vb (e':=[.all R.length]) Ia WE rfl (λarr hc=>by
   obtain⟨⟨v,hv,h1⟩,_⟩:=hc
   refine⟨⟨v,hv,⟨false,u,n,.gen []⟩,by simp[Ctx.jA],rfl,.inl ⟨.inl rfl,?_⟩⟩,trivial⟩
   rcases hd with rfl|rfl
   ·exact⟨none,h1,Nr⟩
   ·exact h1)
  have hg:=WD.trans WG
  have nN:lO c w ((c.jA R.length ⟨false,u,n,.gen []⟩).jV i ⟨true,ty,sz,.gen [[.all R.length]]⟩) w:=by
   refine⟨BU,hg,Fr.refl _ w,λb hb=>.inl hb,λr ao hr hv=>.inl ?_⟩
   have WH:r≠R.length:=λe=>hv (.inl e)
   by_cases er:r=i
   ·subst er;exact⟨⟨_,hi⟩,λe=>hv (.inr e),rfl⟩
   ·exact⟨⟨ao,by simpa[Ctx.jV,Ctx.jA,er,WH]using hr⟩,λe=>hv (.inr e),rfl⟩
  refine Gn (l:=l) h ⟨BU,λr=>?_,λt=>Ad hg (hs.env t),hs.size,hs.defers,hs.gk,hs.ib,hs.reach.step (ks:=[]) (λk hk=>by simp[cw]at hk) hs.ib nN.toK⟩
  simp only[Ctx.jV,Ctx.jA]
  by_cases er:r=i
  ·subst er
   simp[aV,bI (show r<(R.set r _).length by simpa using bg),bg]
  ·rw [if_neg er]
   by_cases en:r=R.length
   ·subst en
    simp[aV]
   ·rw[if_neg en,hs.rows]
    by_cases hl:r<R.length
    ·simp[aV,bI (show r<(R.set i _).length by simpa using hl),List.getElem?_set_ne (Ne.symm er)]
    ·have h1:R.getD r none=none:=by rw[aV,aJ (by omega)];rfl
     rw[h1,aV,aJ (by simp;omega)];rfl
