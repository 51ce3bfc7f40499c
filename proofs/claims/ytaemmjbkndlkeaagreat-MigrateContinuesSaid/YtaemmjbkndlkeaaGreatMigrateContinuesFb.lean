import Derived.Test.YtaemmjbkndlkeaaGreatMigrateContinuesFk
import Derived.Laws.IdiomStrings
import Derived.Laws.BytesArg
import Derived.Laws.Cover3
import Derived.RangeFuncRecord
import Derived.OrdersIn
import Derived.LoopNIn
open List renaming getD->aV,getElem?_take->aF,getElem?_toArray->bH,getElem?_append_left->bI,size_toArray->aK,getElem?_append_right->bJ,length_take->aD,length_drop->aG,getElem?_eq_none->aJ,range'->bO,map_append->bP,map_congr_left->bQ,ext_getElem->bR,getElem_map->bS,getElem_range'->bT,map_toArray->bV
open Nat renaming mul_le_mul_right->bD,succ_mul->bF,zero_add->bG,add_mul->bK,le_refl->aX,add_zero->aB,le_trans->bL,lt_of_lt_of_le->bM,blt->bN
open Bool renaming or_eq_true->aT,false_eq_true->aA
open Array renaming getD->aY,empty_append->bU,toArray_toList->bW
open Option renaming bind_some->aW
set_option linter.all false
namespace Go.GD
open Go
variable {B M N g i id j k n r sz:Nat}{G:List bc}{I:ae}{K:D->Prop}{P:Program}{Q:Exit->Act->World->Prop}{R R':Rows}{T:iu}{a:Act}{after:Array Edge}{args:Array Operand}{b want:Bool}{cs:List iy}{d val x:D}{ds:List Deferred}{dst:Option Tmp}{e ty type:TypeId}{es:ai}{ev:Operand->D}{ks:List Nat}{news us:List Value}{o:Oper}{ops:Array Oper}{pos:String}{ro:Option Nat}{row:Row}{st:St}{dj:Array TypeId}{v:Value}{w w' w0:World}
theorem Zjl(w:World){t tx ty e:TypeId}{i:TypeInfo}(ht:P.underlying t=some (.slice e))(hi:P.info? e=some i)
 {a:Option Addr} {n cap m:Nat} {x:Value} {news:List Value} (hl:(Builtin.lenOf x).run P w=.ok m w) (hf:(Builtin.firstCells i.size (min m n) x).run P w=.ok news.toArray w) {w':World}
 (jR:∀b,a=some b->(storeCells b news).run P w=.ok () w') (mQ:a=none->w'=w):
 (Builtin.copy_ #[t,tx] ty #[.slice a n cap,x]).run P w=.ok (.int .i64 (min m n:Nat)) w':=by
 cases a with
 |none=>
  have:=mQ rfl
  subst this
  simp[Builtin.copy_,run_underlying ht,sizeOf,typeInfo,hi,hl,goInt,hf]
 |some b=>simp[Builtin.copy_,run_underlying ht,sizeOf,typeInfo,hi,hl,goInt,hf,jR b rfl]
theorem Zb5{es:List (List D)}(h:ij I w es news.toArray 0 sz)(hk:k<=es.length):ij I w (es.take k) (news.take (k*sz)).toArray 0 sz:=by
 rw[sX]at h⊢
 intro i hi
 have iA:i<k:=by simp at hi;omega
 obtain⟨h1,h2⟩:=h i (by omega)
 have he:(es.take k).getD i []=es.getD i []:=by simp[aV,aF,iA]
 rw[he]
 refine⟨h1,?_⟩
 rw[tI]at h2⊢
 intro j hj
 obtain⟨v,hv,hp⟩:=h2 j hj
 refine⟨v,?_,hp⟩
 have bg:i*sz+j<k*sz:=by
  have:=bD sz (show i+1<=k by omega)
  rw[bF]at this
  omega
 simp only[bG,bH]at hv⊢
 rw[aF,if_pos bg]
 exact hv
theorem Z15{es ys:List (List D)}{A B:List Value}(h1:ij I w es A.toArray 0 sz)(hA:A.length=es.length*sz)(h2:ij I w ys B.toArray 0 sz):ij I w (es++ys) (A++B).toArray 0 sz:=by
 rw[sX]at h1 h2⊢
 intro i hi
 by_cases bg:i<es.length
 ·have he:(es++ys).getD i []=es.getD i []:=by simp[aV,bI bg]
  rw[he]
  obtain⟨g1,g2⟩:=h1 i bg
  refine⟨g1,?_⟩
  rw[tI]at g2⊢
  intro j hj
  obtain⟨v,hv,hp⟩:=g2 j hj
  refine⟨v,?_,hp⟩
  have hl:=(Array.getElem?_eq_some_iff.1 hv).1
  simp only[bH,aK]at hv hl⊢
  rw[bI hl];exact hv
 ·have iA:i-es.length<ys.length:=by simp at hi;omega
  have he:(es++ys).getD i []=ys.getD (i-es.length) []:=by simp[aV,bJ (show es.length<=i by omega)]
  rw[he]
  obtain⟨g1,g2⟩:=h2 _ iA
  refine⟨g1,?_⟩
  rw[tI]at g2⊢
  intro j hj
  obtain⟨v,hv,hp⟩:=g2 j hj
  refine⟨v,?_,hp⟩
  simp only[bH]at hv⊢
  have e:0+i*sz+j=A.length+(0+(i-es.length)*sz+j):=by
   rw[hA,show i*sz=(es.length+(i-es.length))*sz by congr 1;omega,bK];omega
  rw[e,bJ (by omega)]
  rw[show A.length+(0+(i-es.length)*sz+j)-A.length=0+(i-es.length)*sz+j by omega]
  exact hv
theorem Zre{es:List (List D)}{arr:Array Value}(h:ij I w es arr 0 sz):ij I w (es.drop k) (arr.toList.drop (k*sz)).toArray 0 sz:=by
 have:=JQ (l:=k) h
 rw[sX]at this⊢
 intro i hi
 obtain⟨h1,h2⟩:=this i hi
 refine⟨h1,?_⟩
 rw[tI]at h2⊢
 intro j hj
 obtain⟨v,hv,hp⟩:=h2 j hj
 refine⟨v,?_,hp⟩
 simp only[bH,List.getElem?_drop]
 rw[<-hv]
 simp[Nat.add_assoc]
theorem qG{c:Ctx}(hm:Mem c w){row ao:Row}(hr:c.R r=some row)(h1:ao.box=row.box)(hb:row.box=false)(h2:ao.ty=row.ty)(h3:ao.sz=row.sz)(h4:ao.es.l=row.es.l):iX c w (c.jK r ao) w/\Mem (c.jK r ao) w:=by
 have hg:iX c w (c.jK r ao) w:=by
  refine⟨rfl,aX _,λb hb=>⟨hb,rfl⟩,λs x hs=>?_⟩
  by_cases e:s=r
  ·subst e
   rw[hr]at hs;cases hs
   exact⟨ao,by simp[Ctx.jK],h1,h2,h3,by rw[h4],rfl,Iff.rfl,λ_ a ha=>⟨a,ha,rfl⟩⟩
  ·exact⟨x,by simp[Ctx.jK,e,hs],rfl,rfl,rfl,rfl,rfl,Iff.rfl,λ_ a ha=>⟨a,ha,rfl⟩⟩
 have jv:∀s x,(c.jK r ao).R s=some x->∃x',c.R s=some x':=λs x hs=>by
  by_cases e:s=r
  ·exact⟨row,by rw[e];exact hr⟩
  ·exact⟨x,by simpa[Ctx.jK,e]using hs⟩
 refine⟨hg,λs x hs=>?_,λs q x y hs hq v1 v2 he=>?_,λb ib=>⟨(hm.fe b ib).1,λs x hs hv=>?_⟩,hm.top,hm.jQ⟩
 ·by_cases e:s=r
  ·subst e
   simp only[Ctx.jK,if_true,Option.some.injEq]at hs
   subst hs
   rcases hm.row _ row hr with⟨g0,g1,g2,g3⟩|⟨g0,arr,g1,g2,g3⟩
   ·exact .inl ⟨g0,h1.trans g1,h4.trans g2,by rw[h3];exact g3⟩
   ·refine .inr ⟨g0,arr,by rw[h2];exact g1,by rw[h3];exact g2,?_⟩
    rw[if_neg (by rw[hb];simp)]at g3
    rw[if_neg (by rw[h1,hb];simp),h4,h3]
    exact g3
  ·have iP:c.R s=some x:=by simpa[Ctx.jK,e]using hs
   exact sW hg rfl Iff.rfl (λ_=>rfl) (hm.row s x iP)
 ·obtain⟨x',jD⟩:=jv s x hs
  obtain⟨y',wQ⟩:=jv q y hq
  exact hm.inj s q x' y' jD wQ v1 v2 he
 ·obtain⟨x',jD⟩:=jv s x hs
  exact(hm.fe b ib).2 s x' jD hv
theorem za(hT:Q4 P T){t tx ty:TypeId}{x y:D}{K:D->Rows->Prop}(h:tJ T t tx x y R K):
 ∃ val R',K val R'/\∀c w vx vy,Mem c w->(∀r,c.R r=R.getD r none)->Rep c w x vx->Rep c w y vy->
  ∃v' w' c',(Builtin.copy_ #[t,tx] ty #[vx,vy]).run P w=.ok v' w'/\lB c w c' w'/\(∀r,c'.R r=R'.getD r none)/\Rep c' w' val v':=by
 unfold tJ at h
 split at h
 ·rename_i e iD _ _ _ _ _ ht
  have hk:=mo hT ht
  simp only at hk
  split at h
  ·rename_i ke sz ll cs z q kx _ _ _ _ _ he htx
   obtain⟨i0,pn,Bm,_,JR,wR,_⟩:=De (hT.get he)
   simp only at Bm
   split at h
   ·rename_i sy ys jM
    simp only[dd,aE,aT]at h
    obtain⟨⟨⟨h0,h1⟩,h5⟩,h⟩:=h
    have h0:0<sz:=lE h0
    have h5:sy=sz\/ys.l=[]:=h5.imp bE R9
    have core:∀(r o n k:Nat) (jN:TypeId) (es iQ:ai),iQ.l=es.l.take o++ys.l.take k++es.l.drop (o+k)->R.getD r none=some ⟨false,jN,sz,es⟩->k=min ys.l.length n->o+n<=es.l.length->∀c w vx vy,Mem c w->(∀r,c.R r=R.getD r none)->
     ((n=0/\∃a,vx=.slice a 0 0)\/(¬c.V r/\∃cap arr,vx=.slice (some ⟨c.ρ r,o*sz,none⟩) n cap/\w.heap[c.ρ r]?=some (.cells arr jN (0,0))))->Rep c w y vy->
     ∃v' w' c',(Builtin.copy_ #[t,tx] ty #[vx,vy]).run P w=.ok v' w'/\lB c w c' w'/\(∀q,c'.R q=(R.set r (some ⟨false,jN,sz,iQ⟩)).getD q none)/\v'=.int .i64 (k:Nat):=by
     intro r o n k jN es iQ HD hr uN JS c w vx vy hm hR hx hy
     have oK:lU c R:=λr row ao g1 g2=>by rw[hR,g2]at g1;exact(Option.some.inj g1).symm
     obtain⟨news,s1,s2,s3,s4⟩:=y8 (P:=P) h0 jM h5 hm oK hy
     have c6:c.R r=some ⟨false,jN,sz,es⟩:=by rw[hR];exact hr
     rcases hx with⟨hn0,a,hx⟩|⟨hV,cap,arr,hx,hh⟩
     ·subst hx
      have wR:k=0:=by omega
      have ie:=Zjl (P:=P) w (ty:=ty) (tx:=tx) (a:=a) (n:=0) (cap:=0) (news:=[]) (w':=w) hk.1 pn s2 (by rw[Bm];simpa using s3 0 (Nat.zero_le _) w rfl) (λb _=>by simp[storeCells]) (λ_=>rfl)
      have hl:iQ.l=es.l:=by rw[HD,wR];simp
      obtain⟨u1,u2⟩:=qG hm c6 (ao:=⟨false,jN,sz,iQ⟩) rfl rfl rfl rfl hl
      refine⟨_,w,c.jK r ⟨false,jN,sz,iQ⟩,ie,⟨u2,u1,Fr.refl _ w,λb hb=>.inl hb,λq row hq v=>.inl ⟨?_,v,rfl⟩⟩,λq=>?_,by rw[wR];simp⟩
      ·by_cases e:q=r
       ·exact⟨_,by rw[e];exact c6⟩
       ·exact⟨row,by simpa[Ctx.jK,e]using hq⟩
      ·rw[FH hr]
       simp only[Ctx.jK]
       split
       ·rfl
       ·exact hR q
     ·subst hx
      obtain⟨cur,ha,_,hE⟩:=hm.real c6 hV
      simp only at ha
      rw[hh]at ha;cases ha
      simp only[aA,if_false]at hE
      have kC:es.l.length*sz<=arr.size:=by
       by_cases he:es.l.length=0
       ·rw[he];omega
       ·have:=Z5k hE h0 (show es.l.length-1<es.l.length by omega)
        have e1:es.l.length*sz=(es.l.length-1)*sz+sz:=by rw[show es.l.length*sz=(es.l.length-1+1)*sz by congr 1;omega,bF]
        omega
      have VU:k<=ys.l.length/\k<=n:=by omega
      have mA:o*sz+0+(news.take (k*sz)).length<=arr.size:=by
       have h1:(o+k)*sz<=es.l.length*sz:=bD _ (by omega)
       rw[bK]at h1
       rw[aD];omega
      have hlen:(news.take (k*sz)).length=k*sz:=by
       have:=bD sz VU.1
       rw[aD];omega
      have jR:=run_storeCells_at (P:=P) (c.ρ r) (o*sz) jN (news.take (k*sz)) 0 arr w hh mA (λu hu=>ij.one s4 s1 u (List.mem_of_mem_take hu))
      have ie:=Zjl (P:=P) w (ty:=ty) (tx:=tx) (a:=some ⟨c.ρ r,o*sz,none⟩) (n:=n) (cap:=cap) (news:=news.take (k*sz)) (w':=w.setRow (c.ρ r) (arr.toList.take (o*sz+0)++news.take (k*sz)++arr.toList.drop (o*sz+0+(news.take (k*sz)).length)).toArray) hk.1 pn s2 (by rw[Bm,<-uN];exact s3 k VU.1 w rfl) (λb hb=>by cases hb;simpa using jR) (λh=>by cases h)
      have uQ:iQ.l.length=es.l.length:=by rw[HD];simp only[lA,aD,aG];omega
      have hw:=hm.write (ao:=⟨false,jN,sz,iQ⟩) c6 hV hh (arr:=(arr.toList.take (o*sz+0)++news.take (k*sz)++arr.toList.drop (o*sz+0+(news.take (k*sz)).length)).toArray)
       (by simp only[aK,lA,aD,aG,Array.length_toList];simp only[aD]at mA;omega) rfl rfl rfl uQ
      have iZ:=hw.2 ⟨h0,by
       simp only[aA,if_false]
       rw[HD]
       refine ng (λb hb=>⟨hb,(hw.1.I b hb).2⟩) _ _ _ _ ?_
       have p1:=Zb5 (k:=o) (I:=c.I) (w:=w) (news:=arr.toList) (es:=es.l) (sz:=sz) (by simpa using hE) (by omega)
       have p2:=Zb5 (k:=k) s4 VU.1
       have p3:=Zre (k:=o+k) hE
       have l1:(arr.toList.take (o*sz)).length=(es.l.take o).length*sz:=by
        have:=bD sz (show o<=es.l.length by omega)
        rw[aD,aD,show min o es.l.length=o by omega,show arr.toList.length=arr.size from rfl];omega
       have q1:=Z15 p1 l1 p2
       have l2:(arr.toList.take (o*sz)++news.take (k*sz)).length=(es.l.take o++ys.l.take k).length*sz:=by
        rw[lA,l1,hlen,lA,bK,aD (l:=ys.l),show min k ys.l.length=k by omega]
       have q2:=Z15 q1 l2 p3
       have e2:o*sz+0+(news.take (k*sz)).length=(o+k)*sz:=by rw[hlen,bK];omega
       rw[e2]
       simpa using q2⟩
      refine⟨_,_,c.jK r ⟨false,jN,sz,iQ⟩,ie,⟨iZ,hw.1,(RV w _ _).mono λb _ hb=>⟨r,_,c6,hV,hb.symm⟩,λb hb=>.inl hb,λq ao hq v=>.inl ⟨?_,v,rfl⟩⟩,λq=>?_,by rw[uN]⟩
      ·by_cases e:q=r
       ·exact⟨_,by rw[e];exact c6⟩
       ·exact⟨ao,by simpa[Ctx.jK,e]using hq⟩
      ·rw[FH hr]
       simp only[Ctx.jK]
       split
       ·rfl
       ·exact hR q
    cases x<;>simp only at h
    case all r=>
     split at h
     ·rename_i jN s es hr
      simp only[dd,mX]at h
      have hs:=bE h.1
      subst hs
      refine⟨_,_,h.2,λc w vx vy hm hR hx hy=>?_⟩
      obtain⟨row,q1,q2,hv⟩:=hx
      have c6:row=⟨false,jN,s,es⟩:=by rw[hR,hr]at q1;exact(Option.some.inj q1).symm
      subst c6
      have jD:(es.l.length=0/\∃a,vx=.slice a 0 0)\/(¬c.V r/\∃cap arr,vx=.slice (some ⟨c.ρ r,0*s,none⟩) es.l.length cap/\w.heap[c.ρ r]?=some (.cells arr jN (0,0))):=by
       rcases hv with⟨hV,a,hv,_⟩|⟨hV,cap,arr,hv,h1,h2,h3,h4⟩
       ·have:=(hm.nd q1 hV).2.1
        simp only at this
        exact .inl ⟨by rw[this];rfl,a,hv⟩
       ·exact .inr ⟨hV,cap,arr,by rw[Nat.zero_mul];exact hv,h3⟩
      obtain⟨v',w',c',p1,p2,p3,p4⟩:=core r 0 es.l.length _ jN es ((ys.take (min ys.len es.len)).app (es.drop (min ys.len es.len))) (by rw[ai.jW,ai.iU,ai.j8,ai.iq,ai.iq];simp) hr rfl (by omega) c w vx vy hm hR jD hy
      exact⟨v',w',c',p1,p2,p3,by rw[p4,ai.iq,ai.iq];rfl⟩
     ·exact h.elim
    case own r o n=>
     split at h
     ·rename_i jN s es hr
      simp only[dd,mX]at h
      have hs:=bE h.1
      subst hs
      refine⟨_,_,h.2,λc w vx vy hm hR hx hy=>?_⟩
      obtain⟨row,q1,q2,ho,hv⟩:=hx
      have c6:row=⟨false,jN,s,es⟩:=by rw[hR,hr]at q1;exact(Option.some.inj q1).symm
      subst c6
      have jD:(n=0/\∃a,vx=.slice a 0 0)\/(¬c.V r/\∃cap arr,vx=.slice (some ⟨c.ρ r,o*s,none⟩) n cap/\w.heap[c.ρ r]?=some (.cells arr jN (0,0))):=by
       rcases hv with⟨h0,a,hv,_⟩|⟨hV,cap,arr,h1,h2,h3,hv,h4⟩
       ·exact .inl ⟨h0,a,hv⟩
       ·exact .inr ⟨hV,cap,arr,hv,h3⟩
      obtain⟨v',w',c',p1,p2,p3,p4⟩:=core r o n _ jN es (((es.take o).app (ys.take (min ys.len n))).app (es.drop (o+min ys.len n))) (by rw[ai.jW,ai.jW,ai.iU,ai.iU,ai.j8,ai.iq]) hr rfl ho c w vx vy hm hR jD hy
      exact⟨v',w',c',p1,p2,p3,by rw[p4,ai.iq];rfl⟩
     ·exact h.elim
   ·exact h.elim
  ·exact h.elim
 ·exact h.elim
theorem Zp8{mx:Bool}{x y:D}(h:uR mx x y K):∃val,K val/\∀(P:Program) c w vx vy,Rep c w x vx->Rep c w y vy->∃u,((mx=false->∀dj ty,(Builtin.min_ dj ty #[vx,vy]).run P w=.ok u w)/\(mx=true->∀dj ty,(Builtin.max_ dj ty #[vx,vy]).run P w=.ok u w))/\Rep c w val u:=by
 unfold uR at h
 split at h
 ·rename_i k a k' b
  simp only[dd,decide_eq_true_eq]at h
  obtain⟨rfl,h⟩:=h
  refine⟨_,h,λP c w vx vy hx hy=>⟨_,⟨λe dj ty=>?_,λe dj ty=>?_⟩,rfl⟩⟩
  ·subst e
   rw[Rep.int.1 hx,Rep.int.1 hy]
   simp[Builtin.min_,Builtin.min2]
  ·subst e
   rw[Rep.int.1 hx,Rep.int.1 hy]
   simp[Builtin.max_,Builtin.max2]
 ·exact h.elim
theorem Zj9(hT:Q4 P T){t:TypeId}(h:JT T t es K):K (.mH es)/\∀c w vx vy,(∃a n cap,vx=.slice a n cap/\(a=none->es.l=[]))->Rep c w .c9 vy->∃u,(∀x y,(do eqGuard .eql t x y vx vy;binOp .eql t vx vy).run P w=.ok u w)/\Rep c w (.mH es) u:=by
 unfold JT at h
 split at h
 ·rename_i e n _ _ _ _ _ ht
  have hk:=mo hT ht
  simp only at hk
  refine⟨h,λc w vx vy hx hy=>?_⟩
  obtain⟨a,len,cap,hv,gx⟩:=hx
  rw[show vy=_ from hy,hv]
  refine⟨.bool a.isNone,λx y=>?_,a.isNone,rfl,λe'=>?_⟩
  ·have hg:(eqGuard .eql t x y (.slice a len cap) (.slice none 0 0)).run P w=.ok () w:=rfl
   rw[Sem.run_bind,hg]
   simp only[Result.andThen_ok,binOp]
   simp only[run_equal_slice_nil w t e a len cap hk.1,Sem.run_bind,Result.andThen_ok,Sem.run_pure]
  ·exact gx (by cases a<;>simp_all)
 ·exact h.elim
theorem xG(hT:Q4 P T){t:TypeId}(h:JT T t es K):K (.mH es)/\∀s fr c w vx vy,Rep c w (.sl s es fr) vx->Rep c w .c9 vy->∃u,(∀x y,(do eqGuard .eql t x y vx vy;binOp .eql t vx vy).run P w=.ok u w)/\Rep c w (.mH es) u:=by
 obtain⟨h1,h2⟩:=Zj9 hT h
 refine⟨h1,λs fr c w vx vy hx hy=>h2 c w vx vy ?_ hy⟩
 obtain⟨a,cap,hv,hc,gx⟩:=hx
 refine⟨a,_,cap,hv,λha=>?_⟩
 rcases gx with gx|⟨b,off,arr,ty,fz,hb,_⟩
 ·exact gx
 ·rw[ha]at hb;cases hb
theorem ya(hT:Q4 P T){t:TypeId}{bx:Bool}{jN jX:Nat}(hR:R.getD r none=some ⟨bx,jN,jX,es⟩)(h:JT T t es K):K (.mH es)/\∀c w vx vy,Mem c w->lU c R->Rep c w (.all r) vx->Rep c w .c9 vy->∃u,(∀x y,(do eqGuard .eql t x y vx vy;binOp .eql t vx vy).run P w=.ok u w)/\Rep c w (.mH es) u:=by
 obtain⟨h1,h2⟩:=Zj9 hT h
 refine⟨h1,λc w vx vy hm hA hx hy=>h2 c w vx vy ?_ hy⟩
 obtain⟨row,g1,g2,hv⟩:=hx
 have:=hA r row _ g1 hR
 subst this
 rcases hv with⟨hV,a,hv,_⟩|⟨hV,cap,arr,hv,_⟩
 ·exact⟨a,0,0,hv,λ_=>(hm.nd g1 hV).2.1⟩
 ·exact⟨_,_,cap,hv,λe=>by cases e⟩
theorem Zrp{l:List Int}(h:ij I w (ai.ints .u8 l).l news.toArray 0 1)(hl:news.length=(ai.ints .u8 l).l.length*1):news=l.map (Value.int .u8):=by
 have pq:news.length=l.length:=by simpa[ai.len]using hl
 apply List.ext_getElem?
 intro i
 by_cases hi:i<l.length
 ·obtain⟨h1,h2⟩:=sX.1 h i (by simpa[ai.len]using hi)
  rw[ai.mY _ (show i<(ai.ints .u8 l).len from hi)]at h2
  simp only[ai.get,Df,Dg,rS,rT,rU,rV,rW,rY,sZ,tK,tL,tM,tN,tO,tP,tQ,tR,tS,and_true]at h2
  obtain⟨v,hv,hp⟩:=h2
  simp only[bG,Nat.mul_one,aB,bH]at hv
  rw[hv,hp]
  simp[aV,hi]
 ·rw[aJ (by omega),aJ (by simp;omega)]
theorem zG(hT:Q4 P T){s e d:TypeId}{n a1 a2:Nat}{a3:List ta}{a4:Option (List D)}{a5:Bool}(hs:T.get s=some ⟨.slice e n,a1,a2,a3,a4,a5⟩)(h:uS T e d x R K):
 ∃val,K val/\∀c w v,Mem c w->lU c R->Rep c w x v->FI P (convert s d v) w c val:=by
 unfold uS at h
 split at h
 ·rename_i he hd
  have mV:=mo hT hs
  have pP:=mo hT he
  have JU:=mo hT hd
  simp only at mV pP JU
  split at h
  ·rename_i sy es jM
   split at h
   rotate_left
   ·exact h.elim
   rename_i l hto
   have FJ:=ai.toI_l hto
   simp only[dd,aT]at h
   obtain⟨h5,h⟩:=h
   have h5:sy=1\/es.l=[]:=h5.imp bE R9
   refine⟨_,h,λc w v hm hA hr=>?_⟩
   have hsl:∃a cap,v=.slice a es.l.length cap:=by
    cases x<;>simp only[r3]at jM<;>try(cases jM;done)
    case c9=>cases jM;exact⟨none,0,hr⟩
    case emp=>cases jM;obtain⟨a,hr,_⟩:=hr;exact⟨a,0,hr⟩
    case sl=>cases jM;obtain⟨a,cap,hv,_⟩:=hr;exact⟨a,cap,hv⟩
    case all r=>
     split at jM
     ·rename_i jN s' iQ hR
      cases jM
      obtain⟨row,g1,g2,hv⟩:=hr
      have:=hA r row _ g1 hR
      subst this
      rcases hv with⟨hV,a,hv,_⟩|⟨hV,cap,arr,hv,_⟩
      ·have he:=(hm.nd g1 hV).2.1
       simp only at he
       exact⟨a,0,by rw[he];exact hv⟩
      ·exact⟨_,cap,hv⟩
     ·cases jM
    case own r o m=>
     split at jM
     ·rename_i jN s' iQ hR
      cases jM
      obtain⟨row,g1,g2,g5,hv⟩:=hr
      have:=hA r row _ g1 hR
      subst this
      simp only at g5
      have hlen:((iQ.drop o).take m).l.length=m:=by rw[ai.iU,ai.j8];simp only[aD,aG];omega
      rw[hlen]
      rcases hv with⟨h0,a,hv,_⟩|⟨hV,cap,arr,_,_,_,hv,_⟩
      ·subst h0;exact⟨a,0,hv⟩
      ·exact⟨_,cap,hv⟩
     ·cases jM
   obtain⟨a,cap,hv⟩:=hsl
   subst hv
   obtain⟨news,s1,s2,s3,s4⟩:=z8 (P:=P) (by omega) jM h5 hm hA hr
   rw[FJ]at s1 s4
   have hn:=Zrp s4 s1
   have hlen:es.l.length=l.length:=by rw[FJ];simp[ai.len]
   have hf:=s3 es.l.length (aX _) w rfl
   rw[List.take_of_length_le (by rw[hn,hlen];simp)]at hf
   refine⟨.string ⟨(bytesOf l).toArray⟩,?_,rfl⟩
   rw[run_convert_bytes_string w s d e a es.l.length cap mV.1 pP JU]
   cases a with
   |none=>
    simp only[Builtin.firstCells,Sem.run_pure,Result.ok.injEq,and_true]at hf
    have h1:news=[]:=by
     have:=congrArg Array.toList hf
     simpa using this.symm
    have he:l=[]:=by rw[h1]at hn;simpa using hn.symm
    subst he
    simp only[Conv.bytesToString,Sem.run_pure,bytesOf,List.map_nil]
    rfl
   |some a=>
    simp only[Builtin.firstCells,Nat.mul_one]at hf
    rw[hn]at hf
    rw[run_bytesToString w a es.l.length cap _ hf,foldl_push_bytes]
    have he0:ByteArray.empty.data= #[]:=rfl
    rw[he0]
    simp[bytesOf]
  ·exact h.elim
 ·exact h.elim
structure wM(c0:Ctx)(w0:World)(c:Ctx)(w:World):Prop where
 cz:iX c0 w0 c w
 fr:Fr (λb=>(∃r x,c0.R r=some x/\¬c0.V r/\c0.ρ r=b)\/c0.X b) w0 w
 fe:∀b,c.I b->c0.I b\/c0.X b\/w0.heap.size<=b
 nT:∀r row,c.R r=some row->¬c.V r->((∃x,c0.R r=some x)/\¬c0.V r/\c.ρ r=c0.ρ r)\/c0.X (c.ρ r)\/w0.heap.size<=c.ρ r
 xb:∀b,c0.X b->c0.base<=b
theorem wM.refl(c:Ctx)(w:World):wM {c with X:=λ_=>False} w c w:=
 ⟨⟨rfl,aX _,λ_ h=>⟨h,rfl⟩,λ_ row h=>⟨row,h,rfl,rfl,rfl,rfl,rfl,Iff.rfl,λ_ arr h=>⟨arr,h,rfl⟩⟩⟩,Fr.refl _ w,λ_ h=>.inl h,λ_ row h v=>.inl ⟨⟨row,h⟩,v,rfl⟩,λ_ h=>h.elim⟩
theorem Zll{c0 c:Ctx}(hM:∀k,cv k ks=true->M<=k)(DR:∀r row,c0.R r=some row->r<M)(h:iX c0 w0 c w):iX c0 w0 (c.kill ks) w:=by
 refine⟨h.base,h.top,h.I,λr row hr=>?_⟩
 obtain⟨ao,g1,g2,g3,g4,g5,g6,gV,g7⟩:=h.R r row hr
 obtain⟨s1,s2,s3,s4⟩:=uT ks ao
 have bg:=DR r row hr
 refine⟨ao.kill ks,?_,s1.trans g2,s2.trans g3,s3.trans g4,s4.trans g5,g6,gV,g7⟩
 simp only[Ctx.kill]
 rw[if_neg (λe=>by have:=hM r e;omega),g1];rfl
theorem wM.step{c0 c c':Ctx}(hM:∀k,cv k ks=true->M<=k)(DR:∀r row,c0.R r=some row->r<M)(h:wM c0 w0 c w)(n:jE ks c w c' w'):wM c0 w0 c' w':=by
 have Bn:∀s x,cv s ks=true->c.R s=some x->¬c.V s->c0.X (c.ρ s)\/w0.heap.size<=c.ρ s:=λs x hs hx v'=>by
  rcases h.nT s x hx v' with⟨⟨y,hy⟩,_⟩|e'
  ·have:=DR s y hy;have:=hM s hs;omega
  ·exact e'
 refine⟨(Zll hM DR h.cz).trans n.cz,⟨n.fr.os.trans h.fr.os,n.fr.tape.trans h.fr.tape,n.fr.output.trans h.fr.output,bL h.fr.size n.fr.size,λb hb hx=>?_⟩,λb hb=>?_,λr row hr hv=>?_,h.xb⟩
 ·have bg:b<w.heap.size:=bM hb h.fr.size
  refine(n.fr.heap b bg fun⟨r,x,hr,v,e⟩=>?_).trans (h.fr.heap b hb hx)
  rcases h.nT r x hr v with⟨⟨y,hy⟩,v',e'⟩|e'|e'
  ·exact hx (.inl ⟨r,y,hy,v',by rw[<-e',e]⟩)
  ·exact hx (.inr (by rw[<-e];exact e'))
  ·omega
 ·rcases n.fe b hb with h1|⟨s,x,hs,hx,v',e⟩|h1
  ·exact h.fe b h1
  ·rcases Bn s x hs hx v' with h1|h1
   ·exact .inr (.inl (by rw[<-e];exact h1))
   ·exact .inr (.inr (by omega))
  ·have:=h.fr.size;exact .inr (.inr (by omega))
 ·rcases n.nT r row hr hv with⟨⟨x,hx⟩,v',e⟩|⟨s,x,hs,hx,v',e⟩|e
  ·rcases h.nT r x hx v' with⟨h1,h2,e'⟩|e'|e'
   ·exact .inl ⟨h1,h2,e.trans e'⟩
   ·exact .inr (.inl (by rw[e];exact e'))
   ·exact .inr (.inr (by omega))
  ·rcases Bn s x hs hx v' with h1|h1
   ·exact .inr (.inl (by rw[e];exact h1))
   ·exact .inr (.inr (by omega))
  ·have:=h.fr.size;exact .inr (.inr (by omega))
def lN(n:Nat)(w:World)(ds:List Deferred):Prop:=∃bs:List Nat,bs.Nodup/\ds=bs.map (λb=>({target:=.collected b,args:= #[]}:Deferred))/\∀b∈bs,n<=b/\w.heap[b]?=some (.deferred (some []))
theorem lN.nil:lN n w []:=⟨[],List.nodup_nil,rfl,λb hb=>by simp at hb⟩
theorem lN.to(h:lN n w ds)(hf:∀b:Nat,w.heap[b]?=some (Obj.deferred (some []))->w'.heap[b]?=some (Obj.deferred (some []))):lN n w' ds:=by
 obtain⟨bs,h1,h2,h3⟩:=h
 exact⟨bs,h1,h2,λb hb=>⟨(h3 b hb).1,hf b (h3 b hb).2⟩⟩
theorem lN.step{c:Ctx}(h:lN n w ds)(hm:Mem c w)(hf:Fr (λb=>∃r x,c.R r=some x/\¬c.V r/\c.ρ r=b) w w'):lN n w' ds:=by
 refine h.to λb h2=>(hf.heap b (Array.getElem?_eq_some_iff.1 h2).1 fun⟨r,x,hr,hV,e⟩=>?_).trans h2
 rcases hm.row r x hr with h3|⟨_,arr,h3,_⟩
 ·exact hV h3.1
 ·rw[e,h2]at h3;cases h3
theorem lN.put(h:lN n w a.defers):lN n w (a.put dst v).defers:=by
 cases dst<;>exact h
structure ff(N M:Nat)(c0:Ctx)(w0:World)(c:Ctx)(w:World)(st:St)(a:Act):Prop where
 mem:Mem c w
 rows:∀r,c.R r=st.rows.getD r none
 env:∀t,Rep c w (look st.env t) (a.tmps.getD t undef)
 size:N<=a.tmps.size
 defers:lN w0.heap.size w a.defers
 fv:c0.base<=w0.heap.size
 gp:∀r row,c0.R r=some row->r<M
 reach:wM c0 w0 c w
theorem ff.base{c0:Ctx}{c:Ctx}(h:ff N M c0 w0 c w st a):c.base<=w.heap.size:=by
 rw[h.reach.cz.base];exact bL h.fv h.reach.fr.size
theorem JP{c:Ctx}{env:List (Nat×D)}(f:Nat):Rep c w (cq env (.func f)) (a.eval (.func f)):=by
 simp only[cq,Act.eval]
 cases h:bN f YB with
 |false=>trivial
 |true=>exact⟨[],.inl ⟨lE h,rfl⟩,trivial⟩
theorem MH{c:Ctx}{env:List (Nat×D)}(h:∀t,Rep c w (look env t) (a.tmps.getD t undef))(x:Operand):Rep c w (cq env x) (a.eval x):=by
 cases x with
 |tmp t=>exact h t
 |const v=>
  simp only[cq,Act.eval]
  cases hv:FE v with
  |none=>trivial
  |some d=>exact MF hv c w
 |global g=>trivial
 |func f=>exact JP f
def rM(env:List (Nat×D))(dst:Option Tmp)(d:D):List (Nat×D):=match dst with|none=>env|some t=>(t,d)::env
theorem Ax(env:List (Nat×D))(t:Nat)(d:D)(s:Nat):look ((t,d)::env) s=if t=s then d else look env s:=by
 simp only[look]
 cases hb:Nat.beq t s with
 |true=>rw[if_pos (bE hb)]
 |false=>rw[if_neg (λe=>by rw[e]at hb;simp at hb)]
theorem Zbf{c:Ctx}{env:List (Nat×D)}(hN:N<=a.tmps.size)(hd:∀t,dst=some t->t<N)(h:∀t,Rep c w (look env t) (a.tmps.getD t undef))(hv:Rep c w d v)(t:Nat):
 Rep c w (look (rM env dst d) t) ((a.put dst v).tmps.getD t undef):=by
 cases dst with
 |none=>exact h t
 |some s=>
  have hs:=hd s rfl
  simp only[rM,Act.put,Ax]
  by_cases e:s=t
  ·subst e
   rw[if_pos rfl]
   have bg:s<a.tmps.size:=bM hs hN
   simpa[aY,bg]using hv
  ·rw[if_neg e]
   have:=h t
   simpa[Array.getElem?_setIfInBounds_ne e]using this
def jk:List Operand->Nat
 |[]=>1
 |.tmp t::l=>t+1+jk l
 |_::l=>jk l
theorem VV:∀{l:List Operand},0<jk l
 |[]=>by simp[jk]
 |x::l=>by cases x<;>simp only[jk]<;>have:=VV (l:=l)<;>omega
theorem Sa{t:Nat}:∀{l:List Operand},.tmp t∈l->t<jk l
 |x ::l,h=>by
  rcases List.mem_cons.1 h with e|e
  ·subst e;simp only[jk];omega
  ·have:=Sa e
   cases x<;>simp only[jk]<;>omega
def FK(B:Nat):List iy->List (Nat×D)
 |[]=>[]
 |x::l=>(B,x.d)::FK (B+1) l
theorem MI{env:List (Nat×D)}:∀{cs:List iy} {B t:Nat},look (FK B cs++env) t=if h:B<=t/\t-B<cs.length then(cs[t-B]'h.2).d else look env t
 |[],B,t=>by simp[FK]
 |x ::l,B,t=>by
  simp only[FK,List.cons_append,Ax,MI (cs:=l) (B:=B+1)]
  by_cases e:B=t
  ·subst e;simp
  ·rw[if_neg e]
   by_cases h:B+1<=t/\t-(B+1)<l.length
   ·rw[dif_pos h,dif_pos (by simp;omega)]
    have:t-B=(t-(B+1))+1:=by omega
    simp only[this,List.getElem_cons_succ]
   ·rw[dif_neg h,dif_neg (by simp;omega)]
def DS(args:Array Operand)(n:Nat):Array Operand:=(args.toList++(bO (jk args.toList) n).map Operand.tmp).toArray
def Qi(a:Act)(B:Nat)(us:List Value):Act:={tmps:=((List.range B).map (λi=>a.tmps.getD i undef)++us).toArray,defers:=[]}
theorem Zkc{t:Nat}(h:t<B):(Qi a B us).tmps.getD t undef=a.tmps.getD t undef:=by
 simp[Qi,aY,h,List.getElem_append]
 omega
theorem Zlb:(Qi a B us).tmps.getD (B+i) undef=us.getD i undef:=by
 simp only[Qi,Array.getD_eq_getD_getElem?,bH]
 rw[bJ (by simp)]
 simp[aV]
theorem oy.length{c:Ctx}{w:World}:∀{cs:List iy} {us:List Value},oy c w cs us->us.length=cs.length
 |[],[],_=>rfl
 |_::_,_::_,h=>by simp[oy.length h.2]
 |[],_::_,h=>h.elim
 |_::_,[],h=>h.elim
theorem oy.get{c:Ctx}{w:World}:∀{cs:List iy} {us:List Value},oy c w cs us->∀i (h:i<cs.length),Sb c w (cs[i]'h) (us.getD i undef)
 |[],[],_,i,h=>by simp at h
 |_::_,_::_,h,0,_=>by simpa using h.1
 |_::_,_::_,h,i+1,hi=>by simpa using oy.get h.2 i (by simpa using hi)
 |[],_::_,h,_,_=>h.elim
 |_::_,[],h,_,_=>h.elim
theorem Zch{env:List (Nat×D)}:(DS args cs.length).toList.map (cq (FK (jk args.toList) cs++env))=args.toList.map (cq env)++cs.map iy.d:=by
 simp only[DS,bP]
 congr 1
 ·refine bQ λx hx=>?_
  cases x with
  |tmp t=>simp only[cq,MI];rw[dif_neg (by have:=Sa hx;omega)]
  |_=>rfl
 ·refine bR (by simp) λi h1 h2=>?_
  have:i<cs.length:=by simpa using h2
  simp only[bS,bT,cq,MI]
  rw[dif_pos (by omega)]
  congr 1
  simp
theorem Z1m:(DS args us.length).toList.map (Qi a (jk args.toList) us).eval=args.toList.map a.eval++us:=by
 simp only[DS,bP]
 congr 1
 ·refine bQ λx hx=>?_
  cases x with
  |tmp t=>exact Zkc (Sa hx)
  |_=>rfl
 ·refine bR (by simp) λi h1 h2=>?_
  have:i<us.length:=h2
  simp only[bS,bT,Act.eval,Nat.one_mul]
  rw[Zlb]
  simp[aV,this]
theorem Bo{c:Ctx}{env:List (Nat×D)}(hl:∀x∈args.toList,Rep c w (cq env x) (a.eval x))(hc:oy c w cs us):∀x∈(DS args cs.length).toList,Rep c w (cq (FK (jk args.toList) cs++env) x) ((Qi a (jk args.toList) us).eval x):=by
 intro x hx
 simp only[DS,List.mem_append,List.mem_map]at hx
 rcases hx with hx|⟨t,ht,rfl⟩
 ·have:=hl x hx
  cases x with
  |tmp t=>
   have bg:=Sa hx
   simp only[cq,MI,Act.eval]
   rw[dif_neg (by omega),Zkc bg]
   exact this
  |_=>exact this
 ·rw[List.mem_range'_1]at ht
  obtain⟨i,hi,rfl⟩:∃i:Nat,i<cs.length/\t=jk args.toList+i:=⟨t-jk args.toList,Nat.sub_lt_left_of_lt_add ht.1 ht.2,(Nat.add_sub_cancel' ht.1).symm⟩
  have h2:=oy.get hc i hi
  have h3:look (FK (jk args.toList) cs++env) (jk args.toList+i)=(cs[i]'hi).d:=by
   rw[MI,dif_pos ⟨by omega,by omega⟩]
   congr 1
   simp
  simp only[cq,Act.eval]
  rw[h3,Zlb]
  exact Rep.JV (VRep.DT (VW.1 h2))
theorem qaB{f:FuncId}(he:∀args w,(callFunc f args).run P w=.ok (.enter f args) w){t:Tmp}{guard:Option (Nat×Bool)}
 (ht:a.eval (.tmp t)=.func (.func f) #[] us.toArray) {K:Act->World->Prop} {Q:Exit->Act->World->Prop}
 (h:(⟨some 0,.call ⟨.value (.func f),DS args us.length,dj⟩,type,pos,after,guard⟩:Oper).mW P (Qi a (jk args.toList) us) w (λa' w'=>K (a.put dst (a'.tmps.getD 0 undef)) w') (λ_ _ _=>False)):
 (⟨dst,.call ⟨.value (.tmp t),args,dj⟩,type,pos,after,guard⟩:Oper).mW P a w K Q:=by
 have hv:=Z1m (a:=a) (args:=args) (us:=us)
 have r1:(execOp (Qi a (jk args.toList) us).eval (⟨some 0,.call ⟨.value (.func f),DS args us.length,dj⟩,type,pos,after,guard⟩:Oper)).run P w=.ok (.enter f (args.toList.map a.eval++us).toArray) w:=by
  simp only[execOp,resolve,Act.eval,Deferred.ofValue,Sem.run_bind,Sem.run_pure,Result.andThen_ok,invoke,bU,Array.append_empty]
  rw[he,<-hv,<-bV,bW]
 have r2:(execOp a.eval (⟨dst,.call ⟨.value (.tmp t),args,dj⟩,type,pos,after,guard⟩:Oper)).run P w=.ok (.enter f (args.toList.map a.eval++us).toArray) w:=by
  simp only[execOp,resolve,ht,Deferred.ofValue,Sem.run_bind,Sem.run_pure,Result.andThen_ok,invoke,bU]
  rw[he]
  congr 2
  rw[<-List.append_toArray,<-bV,bW]
 have bg:0<(Qi a (jk args.toList) us).tmps.size:=by have:=VV (l:=args.toList);simp[Qi];omega
 unfold Oper.mW at h⊢
 rw[r1]at h
 rw[r2]
 refine Calls.mono h λe w' ⟨v,he,hp⟩=>⟨v,he,?_⟩
 have:((Qi a (jk args.toList) us).put (some 0) v).tmps.getD 0 undef=v:=by
  simp only[Act.put]
  simp[aY,bg]
 simp only[this]at hp
 exact hp
theorem yG{t:Tmp}{guard:Option (Nat×Bool)}{l:Nat}{rec:Loop}
 (ht:a.eval (.tmp t)=.func (.yield l) #[] #[]) (hl:w.heap[l]?=some (.loop rec)) {K:Act->World->Prop} {Q:Exit->Act->World->Prop} (hs:(args.toList.map a.eval).length=rec.params.size)
 (h:RoundIn Fence.wide 0 P l rec.fn ((rec.params.zip (args.toList.map a.eval).toArray).foldl (λtmps (t,a)=>tmps.setIfInBounds t a) rec.tmps) rec.assign rec.body w λe w'=>∃v,e=.returned v/\K (a.put dst v) w'):
 (⟨dst,.call ⟨.value (.tmp t),args,dj⟩,type,pos,after,guard⟩:Oper).mW P a w K Q:=by
 have r2:(execOp a.eval (⟨dst,.call ⟨.value (.tmp t),args,dj⟩,type,pos,after,guard⟩:Oper)).run P w=.ok (.round l rec.fn ((rec.params.zip (args.toList.map a.eval).toArray).foldl (λtmps (t,a)=>tmps.setIfInBounds t a) rec.tmps) rec.assign rec.body) w:=by
  simp only[execOp,resolve,ht,Deferred.ofValue,Sem.run_bind,Sem.run_pure,Result.andThen_ok,invoke,bU]
  have hy:=run_yield (P:=P) (args:=(args.toList.map a.eval).toArray) hl (by simpa using hs)
  rw[<-hy,<-bV,bW]
 unfold Oper.mW
 rw[r2]
 exact h
section
variable {P:Program} {G:List bc} {M:Nat} {dst:Option Tmp} {f:FuncId} {t:Tmp} {args:Array Operand} {dj:Array TypeId} {type:TypeId} {pos':String} {after:Array Edge} {guard:Option (Nat×Bool)} {env:List (Nat×D)} {cs:List iy} {R:Rows}
theorem MJ{x:bc}(dx:bm P x)(hf:x.f=f)(hy:f<YB)(ht:look env t=.gj f cs)
 (h:Bp P ⟨some 0,.call ⟨.value (.func f),DS args cs.length,dj⟩,type,pos',after,guard⟩ (cq (FK (jk args.toList) cs++env)) R ks val R'):Bp P ⟨dst,.call ⟨.value (.tmp t),args,dj⟩,type,pos',after,guard⟩ (cq env) R ks val R':=by
 intro c w a hm hb hR ei K Q hK
 have h1:=ei (.tmp t) (by simp[Op.operands,Call.operands])
 simp only[cq,ht]at h1
 obtain⟨us,⟨_,hv⟩|⟨gr,_⟩,hc⟩:=h1
 rotate_left
 ·exact absurd hy (Nat.not_lt.2 gr)
 have hl:us.length=cs.length:=hc.length
 refine qaB (λaz w=>by rw[<-hf];exact dx.enters (by rw[hf];exact hy) az w) hv ?_
 rw[hl]
 refine h c w _ hm hb hR (λy hy=>?_) _ _ λv w' c' hn jV hr=>?_
 ·have fq:∀x∈args.toList,Rep c w (cq env x) (a.eval x):=λy hy=>ei y (by simp[Op.operands,Call.operands];exact .inr (by simpa using hy))
  simp only[Op.operands,Call.operands]at hy
  rcases Array.mem_append.1 hy with hy|hy
  ·simp at hy;subst hy;exact JP _
  ·exact Bo fq hc y (by simpa using hy)
 ·have bg:0<(Qi a (jk args.toList) us).tmps.size:=by have:=VV (l:=args.toList);simp[Qi];omega
  have:((Qi a (jk args.toList) us).put (some 0) v).tmps.getD 0 undef=v:=by
   simp only[Act.put]
   simp[aY,bg]
  show K (a.put dst (((Qi a (jk args.toList) us).put (some 0) v).tmps.getD 0 undef)) w'
  rw[this]
  exact hK v w' c' hn jV hr
theorem Zrt{K:D->Rows->Prop}(hG:jr P G)(lD:Qc G f=none)(ht:look env t=.gj f cs)(h:JW G f (args.toList.map (cq env)++cs.map iy.d) R K):∃val R',K val R'/\Bp P ⟨dst,.call ⟨.value (.tmp t),args,dj⟩,type,pos',after,guard⟩ (cq env) R [] val R':=by
 rw[<-Zch]at h
 obtain⟨val,R',x,h1,h2,h3,_⟩:=VX (dst:=some 0) (dj:=dj) (type:=type) (pos':=pos') (after:=after) (guard:=guard) hG lD h
 obtain⟨dx,hf⟩:=FL hG h2
 have uU:x.gone=none:=by simpa[Qc,h2]using lD
 exact⟨val,R',h1,MJ dx hf (by rw[<-hf];exact dx.real uU) ht h3.toK⟩
theorem qb{K:List Nat->D->Rows->Prop}(hG:jr P G)(rK:(bN f YB||Nat.beq args.size 1)=true)(lD:Qc G f=some k)(ht:look env t=.gj f cs)(h:HE G M f k (args.toList.map (cq env)++cs.map iy.d) R K):∃ks val R',K ks val R'/\(∀j,cv j ks=true->M<=j)/\Bp P ⟨dst,.call ⟨.value (.tmp t),args,dj⟩,type,pos',after,guard⟩ (cq env) R ks val R':=by
 rw[<-Zch]at h
 by_cases hy:f<YB
 ·obtain⟨ks,val,R',x,h1,h2,h3,h4,h5⟩:=Zq8 hG hy (dst:=some 0) (dj:=dj) (type:=type) (pos':=pos') (after:=after) (guard:=guard) lD h
  obtain⟨dx,hf⟩:=FL hG h2
  exact⟨ks,val,R',h1,h4,MJ dx hf hy ht h5⟩
 ·obtain⟨ks,val,R',x,h1,h2,h3,h4,h5⟩:=VY hG lD h
  refine⟨ks,val,R',h1,h4,λc w a hm hb hR ei K' Q pQ=>?_⟩
  have h1:=ei (.tmp t) (by simp[Op.operands,Call.operands])
  simp only[cq,ht]at h1
  obtain⟨us,⟨bg,_⟩|⟨gr,l,rec,hv,hI,hl,mI⟩,hc⟩:=h1
  ·exact absurd bg hy
  have fq:∀x∈args.toList,Rep c w (cq env x) (a.eval x):=λy hy=>ei y (by simp[Op.operands,Call.operands];exact .inr (by simpa using hy))
  have hlen:us.length=cs.length:=hc.length
  have iR:(args.toList.map a.eval).length=1:=by
   rcases Bool.or_eq_true_iff.1 rK with e|e
   ·exact absurd (lE e) hy
   ·simpa using bE e
  have fp:(args.toList.map a.eval).length=rec.params.size:=by
   obtain⟨_,_,y,_,hp,_,_,_,h1,_⟩:=mI
   rw[hp,h1];exact iR
  exact yG hv hl fp ((h5 c w (Qi a (jk args.toList) us).eval hm hb hR (λy hy=>Bo fq hc y hy) (λv w'=>K' (a.put dst v) w') λv w' c'=>pQ v w' c').2 (Nat.le_of_not_lt hy) l rec (args.toList.map a.eval) us (by rw[<-hlen,Z1m]) hI hl mI iR)
end
def pr(P:Program)(G:List bc)(M:Nat)(o:Oper)(ev:Operand->D)(R:Rows)(ks:List Nat)(val:D)(R':Rows):Prop:=
 if rO G o.op=true then(∀k,cv k ks=true->M<=k)/\Bp P o ev R ks val R' else ks=[]/\pz P o ev R val R'
theorem pr.toK(h:pr P G M o ev R ks val R'):(∀k,cv k ks=true->M<=k)/\Bp P o ev R ks val R':=by
 unfold pr at h
 split at h
 ·exact h
 ·obtain⟨rfl,h⟩:=h
  exact⟨λk hk=>by simp[cv]at hk,h.toW.toK⟩
theorem Az(hw:rO G o.op=false)(h:pz P o ev R val R'):pr P G M o ev R [] val R':=by
 unfold pr;rw[hw];exact⟨rfl,h⟩
theorem Bq(hw:rO G o.op=true)(hk:∀k,cv k ks=true->M<=k)(h:Bp P o ev R ks val R'):pr P G M o ev R ks val R':=by
 unfold pr;rw[if_pos hw];exact⟨hk,h⟩
def nh(P:Program)(G:List bc)(M:Nat)(ops:Array Oper)(o:Oper)(env:List (Nat×D))(R:Rows)(ks:List Nat)(val:D)(R':Rows):Prop:=
 match o.guard with
 |none=>pr P G M o (cq env) R ks val R'
 |some (j,want)=>∃g,(ops[j]?).bind (·.dst)=some g/\((∃b,look env g=.bool b/\(if b=want then pr P G M o (cq env) R ks val R' else ks=[]/\val=.dv []/\R'=R))\/(look env g=.dv []/\ks=[]/\val=.dv []/\R'=R))
theorem oz{K:St->Prop}(h:st.put N dst d R K):(∀t,dst=some t->t<N)/\K ⟨rM st.env dst d,R⟩:=by
 cases dst with
 |none=>exact⟨λt h=>(by cases h),h⟩
 |some t=>
  simp only[St.put,dd]at h
  refine⟨λs hs=>?_,h.2⟩
  cases hs
  exact lE h.1
theorem zb(d:D):d.kill []=d:=by
 cases d with
 |agg cs=>show D.agg (D.kf [] cs)=_;rw[VZ]
 |gj f cs=>exact V0 (.gj f cs)
 |_=>rfl
theorem Zi4:∀{ds:List D},D.pA [] ds=ds
 |[]=>rfl
 |d::l=>by simp[D.pA,zb,Zi4 (ds:=l)]
theorem yb(d:D):d.gk []=d:=by
 cases d with
 |dv ds=>show D.dv (D.pA [] ds)=_;rw[Zi4]
 |agg cs=>exact zb (.agg cs)
 |gj f cs=>exact V0 (.gj f cs)
 |_=>rfl
theorem ow{env:List (Nat×D)}{t:Nat}:look (rL [] env) t=look env t:=by rw[Br,yb]
theorem Zqg(hT:Q4 P T)(hG:jr P G){K:St->Prop}(h:lF T G N M o st K):
 ∃ks val R' iB,(∀t,look iB t=look (rL ks st.env) t)/\(∀t,o.dst=some t->t<N)/\K ⟨rM iB o.dst val,R'⟩/\pr P G M o (cq st.env) st.rows ks val R':=by
 have plain:(rO G o.op=FM o.op)->(gz T o.op (cq st.env) st.rows λd R=>st.put N o.dst d R K)->∃ks val R' iB,(∀t,look iB t=look (rL ks st.env) t)/\(∀t,o.dst=some t->t<N)/\K ⟨rM iB o.dst val,R'⟩/\pr P G M o (cq st.env) st.rows ks val R':=by
  intro hw h
  obtain⟨val,R',hK,hO⟩:=Z7 hT o _ _ _ h
  obtain⟨h1,h2⟩:=oz hK
  refine⟨[],_,_,st.env,λt=>ow.symm,h1,h2,?_⟩
  split at hO
  ·rename_i hs
   exact Bq (hw.trans hs) (λk hk=>by simp[cv]at hk) hO.toK
  ·rename_i hs
   exact Az (by rw[hw];simpa using hs) hO
 unfold lF at h
 split at h
 ·rename_i cc x y ho
  split at h
  ·rename_i b hb
   have hw:rO G o.op=false:=by rw[ho];rfl
   have go:∀z,z∈o.op.operands->(∀c w (a:Act),Rep c w (cq st.env cc) (a.eval cc)->(execOp a.eval o).run P w=.ok (.value (a.eval z)) w)->(cq st.env z).force (λd=>st.put N o.dst d st.rows K)->
    ∃ks val R' iB,(∀t,look iB t=look (rL ks st.env) t)/\(∀t,o.dst=some t->t<N)/\K ⟨rM iB o.dst val,R'⟩/\pr P G M o (cq st.env) st.rows ks val R':=by
    intro z hz ie h
    rw[D.c8]at h
    obtain⟨h1,h2⟩:=oz h
    exact⟨[],_,_,st.env,λt=>ow.symm,h1,h2,Az hw (mq λc w a hm hA ei=>⟨_,ie c w a (ei cc (by rw[ho];simp[Op.operands])),ei z hz⟩)⟩
   cases b with
   |true=>
    refine go x (by rw[ho];simp[Op.operands]) (λc w a hc=>?_) h
    rw[hb]at hc
    simp only[execOp,ho,Rep.bool.1 hc,asBool,Sem.run_bind,Sem.run_pure,Result.andThen_ok,if_true]
   |false=>
    refine go y (by rw[ho];simp[Op.operands]) (λc w a hc=>?_) h
    rw[hb]at hc
    simp only[execOp,ho,Rep.bool.1 hc,asBool,Sem.run_bind,Sem.run_pure,Result.andThen_ok,aA,if_false]
  ·exact h.elim
 ·rename_i f args dj ho
  obtain⟨dst,op,type,pos,after,guard⟩:=o
  simp only at ho
  subst ho
  split at h
  ·rename_i lD
   split at h
   rotate_left
   ·rename_i DU
    obtain⟨ks,val,R',x,hK,hx,hM,hO⟩:=zS (dst:=dst) (type:=type) (pos':=pos) (after:=after) (guard:=guard) (dj:=dj) hG lD h
    rw[HF]at hK
    obtain⟨h1,h2⟩:=oz hK
    refine⟨ks,_,_,_,λt=>rfl,h1,h2,Bq ?_ hM hO⟩
    have DU:x.oL=true:=by simpa[Z8,hx]using DU
    cases pw:x.refs with
    |nil=>simp only[rO,hx,pw,DU]
    |cons b bs=>simp only[rO,hx,pw]
   rename_i DU
   have HG:∀x,oA G f=some x->x.oL=false:=λx hx=>by simpa[Z8,hx]using DU
   obtain⟨val,R',x,hK,hx,hO,hN⟩:=VX (dst:=dst) (type:=type) (pos':=pos) (after:=after) (guard:=guard) (dj:=dj) hG lD h
   obtain⟨h1,h2⟩:=oz hK
   refine⟨[],_,_,st.env,λt=>ow.symm,h1,h2,?_⟩
   cases hr:x.refs with
   |nil=>exact Az (by simp only[rO,hx,hr,HG x hx]) (hN hr)
   |cons b bs=>exact Bq (by simp only[rO,hx,hr]) (λk hk=>by simp[cv]at hk) hO.toK
  ·rename_i k lD
   obtain⟨hy,h⟩:=dd.1 h
   obtain⟨ks,val,R',x,hK,hx,hr,hM,hO⟩:=Zq8 hG (lE hy) (dst:=dst) (type:=type) (pos':=pos) (after:=after) (guard:=guard) (dj:=dj) lD h
   rw[HF]at hK
   obtain⟨h1,h2⟩:=oz hK
   refine⟨ks,_,_,_,λt=>rfl,h1,h2,Bq ?_ hM hO⟩
   cases pw:x.refs with
   |nil=>exact(hr pw).elim
   |cons b bs=>simp only[rO,hx,pw]
 ·rename_i t args dj ho
  obtain⟨dst,op,type,pos,after,guard⟩:=o
  simp only at ho
  subst ho
  split at h
  ·rename_i f cs ht
   split at h
   ·rename_i lD
    split at h
    ·obtain⟨val,R',hK,hO⟩:=Zrt (dst:=dst) (type:=type) (pos':=pos) (after:=after) (guard:=guard) (dj:=dj) hG lD ht h
     obtain⟨h1,h2⟩:=oz hK
     exact⟨[],_,_,st.env,λt=>ow.symm,h1,h2,Bq rfl (λk hk=>by simp[cv]at hk) hO⟩
    ·exact h.elim
   ·rename_i k lD
    obtain⟨rK,h⟩:=dd.1 h
    obtain⟨ks,val,R',hK,hM,hO⟩:=qb (dst:=dst) (type:=type) (pos':=pos) (after:=after) (guard:=guard) (dj:=dj) hG rK lD ht h
    rw[HF]at hK
    obtain⟨h1,h2⟩:=oz hK
    exact⟨ks,_,_,_,λt=>rfl,h1,h2,Bq rfl hM hO⟩
  ·exact h.elim
 ·rename_i args dj ho
  obtain⟨dst,op,type,pos,after,guard⟩:=o
  simp only at ho
  subst ho
  split at h
  ·rename_i x y t tx hx ht
   have fq:args= #[x,y]:=by rw[<-bW (xs:=args),hx]
   have tT:dj= #[t,tx]:=by rw[<-bW (xs:=dj),ht]
   subst fq;subst tT
   obtain⟨ks,R',hK,hM,hr⟩:=Zq4 (ty:=type) hT h
   rw[HF]at hK
   obtain⟨h1,h2⟩:=oz hK
   refine⟨ks,_,_,_,λt=>rfl,h1,h2,Bq rfl hM λc w a hm hb hR ei K' Q pQ=>?_⟩
   obtain⟨v',w',c',ie,hn,jV,hv⟩:=hr c w _ _ hm hb hR (ei x (by simp[Op.operands,Call.operands])) (ei y (by simp[Op.operands,Call.operands]))
   refine FN ?_ (pQ v' w' c' hn jV hv)
   simp only[execOp,resolve,Sem.run_bind,Sem.run_pure,Result.andThen_ok,invoke,builtin]
   have:(#[x,y]:Array Operand).map a.eval= #[a.eval x,a.eval y]:=by simp
   rw[this,ie];rfl
  ·exact h.elim
 ·rename_i args dj ho
  obtain⟨dst,op,type,pos,after,guard⟩:=o
  simp only at ho
  subst ho
  split at h
  ·rename_i x y t tx hx ht
   have fq:args= #[x,y]:=by rw[<-bW (xs:=args),hx]
   have tT:dj= #[t,tx]:=by rw[<-bW (xs:=dj),ht]
   subst fq;subst tT
   obtain⟨val,R',hK,hr⟩:=za (ty:=type) hT h
   obtain⟨h1,h2⟩:=oz hK
   refine⟨[],_,_,st.env,λt=>ow.symm,h1,h2,Bq rfl (λk hk=>by simp[cv]at hk) (DV.toK λc w a hm hb hR ei K' Q pQ=>?_)⟩
   obtain⟨v',w',c',ie,hn,jV,hv⟩:=hr c w _ _ hm hR (ei x (by simp[Op.operands,Call.operands])) (ei y (by simp[Op.operands,Call.operands]))
   refine FN ?_ (pQ v' w' c' hn jV hv)
   simp only[execOp,resolve,Sem.run_bind,Sem.run_pure,Result.andThen_ok,invoke,builtin]
   have:(#[x,y]:Array Operand).map a.eval= #[a.eval x,a.eval y]:=by simp
   rw[this,ie];rfl
  ·exact h.elim
 ·rename_i args dj ho
  split at h
  ·rename_i x y hx
   obtain⟨val,hK,hr⟩:=Zp8 h
   obtain⟨h1,h2⟩:=oz hK
   refine⟨[],_,_,st.env,λt=>ow.symm,h1,h2,Az (by rw[ho];rfl) (mq λc w a hm hA ei=>?_)⟩
   have fq:args= #[x,y]:=by rw[<-bW (xs:=args),hx]
   subst fq
   obtain⟨u,hu,hv⟩:=hr P c w _ _ (ei x (by rw[ho];simp[Op.operands,Call.operands])) (ei y (by rw[ho];simp[Op.operands,Call.operands]))
   refine⟨u,?_,hv⟩
   simp only[execOp,ho,resolve,Sem.run_bind,Sem.run_pure,Result.andThen_ok,invoke,builtin]
   have:(#[x,y]:Array Operand).map a.eval= #[a.eval x,a.eval y]:=by simp
   rw[this]
   have hu:=hu.1 rfl dj o.type
   rw[hu];rfl
  ·exact h.elim
 ·rename_i args dj ho
  split at h
  ·rename_i x y hx
   obtain⟨val,hK,hr⟩:=Zp8 h
   obtain⟨h1,h2⟩:=oz hK
   refine⟨[],_,_,st.env,λt=>ow.symm,h1,h2,Az (by rw[ho];rfl) (mq λc w a hm hA ei=>?_)⟩
   have fq:args= #[x,y]:=by rw[<-bW (xs:=args),hx]
   subst fq
   obtain⟨u,hu,hv⟩:=hr P c w _ _ (ei x (by rw[ho];simp[Op.operands,Call.operands])) (ei y (by rw[ho];simp[Op.operands,Call.operands]))
   refine⟨u,?_,hv⟩
   simp only[execOp,ho,resolve,Sem.run_bind,Sem.run_pure,Result.andThen_ok,invoke,builtin]
   have:(#[x,y]:Array Operand).map a.eval= #[a.eval x,a.eval y]:=by simp
   rw[this]
   have hu:=hu.2 rfl dj o.type
   rw[hu];rfl
  ·exact h.elim
 ·rename_i s d x ho
  split at h
  ·rename_i e _ _ _ _ _ _ hs
   obtain⟨val,hK,hr⟩:=zG hT hs h
   obtain⟨h1,h2⟩:=oz hK
   refine⟨[],_,_,st.env,λt=>ow.symm,h1,h2,Az (by rw[ho];rfl) (mq λc w a hm hA ei=>?_)⟩
   obtain⟨u,hu,hv⟩:=hr c w _ hm hA (ei x (by rw[ho];simp[Op.operands]))
   refine⟨u,?_,hv⟩
   simp only[execOp,ho]
   rw[Sem.run_bind,hu];rfl
  ·rw[<-ho]at h
   exact plain (by rw[ho];rfl) h
 ·rename_i op t x y ty ho
  split at h
  ·rename_i s es fr hx hy
   obtain⟨hK,hr⟩:=xG hT h
   obtain⟨h1,h2⟩:=oz hK
   refine⟨[],_,_,st.env,λt=>ow.symm,h1,h2,Az (by rw[ho];rfl) (mq λc w a hm hA ei=>?_)⟩
   have q1:=ei x (by rw[ho];simp[Op.operands])
   have q2:=ei y (by rw[ho];simp[Op.operands])
   rw[hx]at q1;rw[hy]at q2
   obtain⟨u,hu,hv⟩:=hr s fr c w _ _ q1 q2
   refine⟨u,?_,hv⟩
   simp only[execOp,ho]
   rw[Sem.run_bind,hu x y];rfl
  ·rename_i r hx hy
   split at h
   ·rename_i bx jN jX es hR
    obtain⟨hK,hr⟩:=ya hT hR h
    obtain⟨h1,h2⟩:=oz hK
    refine⟨[],_,_,st.env,λt=>ow.symm,h1,h2,Az (by rw[ho];rfl) (mq λc w a hm hA ei=>?_)⟩
    have q1:=ei x (by rw[ho];simp[Op.operands])
    have q2:=ei y (by rw[ho];simp[Op.operands])
    rw[hx]at q1;rw[hy]at q2
    obtain⟨u,hu,hv⟩:=hr c w _ _ hm hA q1 q2
    refine⟨u,?_,hv⟩
    simp only[execOp,ho]
    rw[Sem.run_bind,hu x y];rfl
   ·exact h.elim
  ·rw[<-ho]at h
   exact plain (by rw[ho];rfl) h
 ·rename_i op n1 n2 n9 n3 n4 n5 n6 n7 n8
  refine plain ?_ h
  unfold rO
  split
  ·rename_i rk;rw[rk];rfl
  ·rename_i rk;exact(n2 _ _ _ rk).elim
  ·rename_i rk;exact(n9 _ _ _ rk).elim
  ·rename_i rk;exact(n3 _ _ rk).elim
  ·rename_i rk;exact(n4 _ _ rk).elim
  ·rename_i m1 m2 m5 m3 m4
   cases rk:o.op<;>first|rfl|exact(m1 _ _ _ rk).elim
theorem Sc(h:look st.env g=.bool b)(t:Nat):look (st.jO (.tmp g) b).env t=look st.env t:=by
 simp only[St.jO,Ax]
 split
 ·rename_i e;subst e;exact h.symm
 ·rfl
theorem Zrq{env lV:List (Nat×D)}(h:∀t,look lV t=look env t):cq lV=cq env:=by
 funext x;cases x<;>first|exact h _|rfl
theorem VF(hT:Q4 P T)(hG:jr P G){l:List Oper}{K:St->Prop}(h:lL T G N M ops (o::l) st K):
 ∃ks val R' iB,(∀t,look iB t=look (rL ks st.env) t)/\(∀t,o.dst=some t->t<N)/\nh P G M ops o st.env st.rows ks val R'/\lL T G N M ops l ⟨rM iB o.dst val,R'⟩ K:=by
 simp only[lL]at h
 split at h
 ·rename_i hg
  obtain⟨ks,val,R',iB,h0,h1,h2,h3⟩:=Zqg hT hG h
  exact⟨ks,val,R',iB,h0,h1,by unfold nh;rw[hg];exact h3,h2⟩
 ·rename_i j want hg
  split at h
  ·rename_i g hd
   split at h
   ·rename_i b hb
    have yes:∀b',b'=b->lF T G N M o (st.jO (.tmp g) b') (λst=>lL T G N M ops l st K)->b=want->∃ks val R' iB,(∀t,look iB t=look (rL ks st.env) t)/\(∀t,o.dst=some t->t<N)/\nh P G M ops o st.env st.rows ks val R'/\lL T G N M ops l ⟨rM iB o.dst val,R'⟩ K:=by
     intro b' e hh hw
     subst e
     obtain⟨ks,val,R',iB,h0,h1,h2,h3⟩:=Zqg hT hG hh
     rw[Zrq (Sc hb)]at h3
     refine⟨ks,val,R',iB,λt=>by rw[h0,Br,Br,Sc hb],h1,?_,h2⟩
     unfold nh;rw[hg]
     exact⟨g,hd,.inl ⟨_,hb,by rw[if_pos hw];exact h3⟩⟩
    have no:∀b',b'=b->(st.jO (.tmp g) b').put N o.dst (.dv []) st.rows (λst=>lL T G N M ops l st K)->b≠want->∃ks val R' iB,(∀t,look iB t=look (rL ks st.env) t)/\(∀t,o.dst=some t->t<N)/\nh P G M ops o st.env st.rows ks val R'/\lL T G N M ops l ⟨rM iB o.dst val,R'⟩ K:=by
     intro b' e hh hw
     subst e
     obtain⟨h1,h2⟩:=oz hh
     refine⟨[],_,_,_,λt=>by rw[ow,Sc hb],h1,?_,h2⟩
     unfold nh;rw[hg]
     exact⟨g,hd,.inl ⟨_,hb,by rw[if_neg hw];exact⟨rfl,rfl,rfl⟩⟩⟩
    cases b<;>cases want<;>simp only[wS]at h
    ·exact yes _ rfl h rfl
    ·exact no _ rfl h (by simp)
    ·exact no _ rfl h (by simp)
    ·exact yes _ rfl h rfl
   ·rename_i hb
    obtain⟨h1,h2⟩:=oz h
    refine⟨[],_,_,st.env,λt=>ow.symm,h1,?_,h2⟩
    unfold nh;rw[hg]
    exact⟨g,hd,.inr ⟨hb,rfl,rfl,rfl⟩⟩
   ·exact h.elim
  ·exact h.elim
theorem R7{c:Ctx}(hg:o.guard=some (j,want))(hd:(ops[j]?).bind (·.dst)=some g)(h:Rep c w (.dv []) (a.tmps.getD g undef)):
 Region.wanted o (yielded ops a.tmps)=false:=by
 obtain⟨vs,hv,Bs⟩:=h
 have hy:yielded ops a.tmps j=none:=by
  simp only[yielded,hd,aW]
  cases hx:a.tmps[g]? with
  |none=>rfl
  |some v=>
   have:a.tmps.getD g undef=v:=by simp[hx]
   rw[this]at hv
   rw[hv]
 unfold Region.wanted
 rw[hg]
 simp only[hy]
 rfl
theorem R6(c:Ctx)(w:World):Rep c w (.dv []) undef:=⟨[],rfl,trivial⟩
theorem R8{c:Ctx}(hg:o.guard=some (j,want))(hd:(ops[j]?).bind (·.dst)=some g)(h:Rep c w (.bool b) (a.tmps.getD g undef)):
 Region.wanted o (yielded ops a.tmps)=decide (b=want):=by
 have hv:=Rep.bool.1 h
 have ht:a.tmps[g]?=some (.bool b):=by
  cases hx:a.tmps[g]? with
  |none=>simp[hx,undef]at hv
  |some v=>simp[hx]at hv;rw[hv]
 unfold Region.wanted
 simp only[hg,yielded,hd,aW,ht]
 cases b<;>cases want<;>rfl
def wpOp(P:Program)(ops:Array Oper)(Q:Exit->Act->World->Prop)(i:Nat)(K:Act->World->Prop)(a:Act)(w:World):Prop:=
 match ops[i]? with
 |none=>K a w
 |some o=>if Region.wanted o (yielded ops a.tmps)then o.mW P a w K Q else K (a.put o.dst undef) w
def JX(P:Program)(ops:Array Oper)(Q:Exit->Act->World->Prop):List Nat->Act->World->Prop
 |[],a,w=>Q .normal a w
 |i::rest,a,w=>wpOp P ops Q i (JX P ops Q rest) a w
theorem Zc(i:Nat)(rest:List Nat)(a:Act)(w:World):JX P ops Q (i::rest) a w=wpOp P ops Q i (JX P ops Q rest) a w:=rfl
def HA(P:Program)(md:Region.Mode)(ops:Array Oper)(Q:Exit->Act->World->Prop):Nat->Array Bool->Act->World->Prop
 |0,au,a,w=>Region.ready md ops au=[]/\Q .normal a w
 |fuel+1,au,a,w=>
  (Region.ready md ops au=[]->Q .normal a w)/\
  ∀i∈Region.ready md ops au,wpOp P ops Q i (HA P md ops Q fuel (au.setIfInBounds i true)) a w
abbrev AA(ro:Option Nat):Fence:={Fence.wide with round:=ro}
theorem yX{P:Program}{ro:Option Nat}{o:Oper}{a:Act}{w:World}{K:Act->World->Prop}{Q Q':Exit->Act->World->Prop}(h:o.mW P a w K Q):o.wpIn (AA ro) 0 P a w K Q':=by
 refine⟨λ_ _=>trivial,?_⟩
 have hd:∀c,o.op≠.defer c:=by
  intro c hc
  unfold Oper.mW at h
  simp only[execOp,hc,Sem.run_bind]at h
  revert h
  cases(resolve a.eval c o.type).run P w with
  |halt _ _=>exactλh=>h
  |ok d w'=>exactλh=>h
 rw[Oper.semAt_eq _ _ _ hd]
 unfold Oper.mW at h
 revert h
 generalize(execOp a.eval o).run P w=r
 intro h
 cases r with
 |halt _ _=>exact h.elim
 |ok n w'=>
  cases n with
  |value v=>exact h
  |skip=>exact h
  |enter f args=>
   refine⟨λe=>(by cases e),?_⟩
   refine CallsIn.mono (F:=Fence.wide) (callsIn_wide.2 h) λe w' ⟨v,he,hk⟩=>?_
   subst he;exact hk
  |round l f tmps assign body=>
   refine⟨λe=>(by cases e),?_⟩
   refine RoundIn.mono (F:=Fence.wide) h λe w' ⟨v,he,hk⟩=>?_
   subst he;exact hk
  |_=>exact h.elim
theorem Z4{P:Program}{ro:Option Nat}{ops:Array Oper}{Q:Exit->Act->World->Prop}:∀{l:List Nat} {a:Act} {w:World},JX P ops Q l a w->wpOpsIn (AA ro) 0 P ops Q l a w
 |[],_,_,h=>h
 |i ::l,a,w,h=>by
  rw[Zc]at h
  unfold wpOp at h
  unfold wpOpsIn
  split
  ·rename_i ho;simp only[ho]at h;exact Z4 h
  ·rename_i o ho
   simp only[ho]at h
   split
   ·rename_i hw;rw[if_pos hw]at h;exact yX (Q:=Q) (V1 (Q':=Q) (λa w h=>Z4 h) h)
   ·rename_i hw;rw[if_neg hw]at h;exact⟨λ_ _=>trivial,Z4 h⟩
theorem Sd{P:Program}{ro:Option Nat}{md:Region.Mode}{ops:Array Oper}{Q:Exit->Act->World->Prop}:∀{n:Nat} {au:Array Bool} {a:Act} {w:World},HA P md ops Q n au a w->wpAnyIn (AA ro) 0 P md ops Q n au a w
 |0,_,_,_,h=>h
 |n +1,au,a,w,h=>by
  refine⟨h.1,λi hi=>?_⟩
  have h:=h.2 i hi
  unfold wpOp at h
  unfold wpOpIn
  split
  ·rename_i ho;simp only[ho]at h;exact Sd h
  ·rename_i o ho
   simp only[ho]at h
   split
   ·rename_i hw;rw[if_pos hw]at h;exact yX (Q:=Q) (V1 (Q':=Q) (λa w h=>Sd h) h)
   ·rename_i hw;rw[if_neg hw]at h;exact⟨λ_ _=>trivial,Sd h⟩
theorem Zhu(h:JX P ops Q (List.range ops.size) a w):(Code.region id ops false).wpIn (AA ro) 0 P Q a w:=wpIn_region (Z4 h)
theorem Qwf(hm:P.follows .mixedOrders=true)
 (h:HA P .any ops Q ops.size (Array.replicate ops.size false) a {w with drawn:=w.drawn+1}):(Code.region id ops true).wpIn (AA ro) 0 P Q a w:=wpIn_region_any hm (Sd h)
theorem vX{c0:Ctx}{c:Ctx}{iB:List (Nat×D)}(hi:ops[i]?=some o)
 (hs:ff N M c0 w0 c w st a) (h1:∀t,look iB t=look (rL ks st.env) t) (hd:∀t,o.dst=some t->t<N) (hG:nh P G M ops o st.env st.rows ks val R') {K:Act->World->Prop} {Q:Exit->Act->World->Prop}
 (hK:∀a' w' c',ff N M c0 w0 c' w' ⟨rM iB o.dst val,R'⟩ a'->K a' w'):wpOp P ops Q i K a w:=by
 have fin:(∀k,cv k ks=true->M<=k)->∀(v:Value) (w':World) (c':Ctx),jE ks c w c' w'->(∀r,c'.R r=R'.getD r none)->Rep c' w' val v->K (a.put o.dst v) w':=λhM v w' c' hn hR hv=>by
  refine hK _ _ c' ⟨hn.mem,hR,?_,?_,?_,hs.fv,hs.gp,hs.reach.step hM hs.gp hn⟩
  ·exact Zbf hs.size hd (λt=>by rw[h1,Br];exact Qb hn.cz (V2 (hs.env t))) hv
  ·cases ho:o.dst<;>simp[Act.put]<;>exact hs.size
  ·exact lN.put (hs.defers.step hs.mem hn.fr)
 have run:pr P G M o (cq st.env) st.rows ks val R'->o.mW P a w K Q:=λhX=>hX.toK.2 c w a hs.mem hs.base hs.rows (λx _=>MH hs.env x) K Q (fin hX.toK.1)
 have skip:ks=[]->val=.dv []->R'=st.rows->K (a.put o.dst undef) w:=λe0 e1 e2=>by
  refine hK _ _ c ⟨hs.mem,by rw[e2];exact hs.rows,?_,?_,?_,hs.fv,hs.gp,hs.reach⟩
  ·exact Zbf hs.size hd (λt=>by rw[h1,e0,ow];exact hs.env t) (by rw[e1];exact R6 _ _)
  ·cases ho:o.dst<;>simp[Act.put]<;>exact hs.size
  ·exact lN.put hs.defers
 unfold wpOp
 simp only[hi]
 unfold nh at hG
 cases hg:o.guard with
 |none=>
  simp only[hg]at hG
  have hw:Region.wanted o (yielded ops a.tmps)=true:=by simp[Region.wanted,hg]
  rw[if_pos hw]
  exact run hG
 |some jw=>
  obtain⟨j,want⟩:=jw
  simp only[hg]at hG
  obtain⟨g,h2,⟨b,h3,h4⟩|⟨h3,e0,e1,e2⟩⟩:=hG
  rotate_left
  ·have hr:=hs.env g
   rw[h3]at hr
   rw[if_neg (by rw[R7 (o:=o) hg h2 hr];simp)]
   exact skip e0 e1 e2
  have hr:=hs.env g
  rw[h3]at hr
  have hw:=R8 (o:=o) hg h2 hr
  by_cases e:b=want
  ·rw[if_pos e]at h4
   rw[if_pos (by rw[hw];simpa using e)]
   exact run h4
  ·rw[if_neg e]at h4
   rw[if_neg (by rw[hw];simpa using e)]
   exact skip h4.1 h4.2.1 h4.2.2
theorem qY{P:Program}{T:iu}(hT:Q4 P T){G:List bc}(hG:jr P G){N M:Nat}{ops:Array Oper}{c0:Ctx}{w0:World}{K:St->Prop}{Q:Exit->Act->World->Prop}(hQ:∀st c w a,K st->ff N M c0 w0 c w st a->Q .normal a w):
 ∀(l:List Oper) (k:Nat) (st:St) (c:Ctx) (w:World) (a:Act),ops.toList.drop k=l->lL T G N M ops l st K->ff N M c0 w0 c w st a->JX P ops Q (bO k l.length) a w
 |[],k,st,c,w,a,_,h,hs=>hQ st c w a h hs
 |o ::l,k,st,c,w,a,hk,h,hs=>by
  have bg:k<ops.toList.length:=by
   by_cases bg:k<ops.toList.length
   ·exact bg
   ·rw[List.drop_eq_nil_of_le (by omega)]at hk;cases hk
  rw[List.drop_eq_getElem_cons bg]at hk
  have ho:ops[k]?=some o:=by
   have:=(List.cons.inj hk).1
   rw[<-this]
   simp at bg
   simp[bg]
  obtain⟨ks,val,R',iB,h1,h2,h3,h4⟩:=VF hT hG h
  simp only[List.length_cons,List.range'_succ]
  rw[Zc]
  exact vX ho hs h1 h2 h3 λa' w' c' iP=>qY hT hG hQ l (k+1) _ c' w' a' (List.cons.inj hk).2 h4 iP
def mG:Exit->Option Ex
 |.normal=>some .normal
 |.exit i=>some (.exit i)
 |.ret=>some .ret
 |_=>none
def tG(ro:Option Nat)(P:Program)(N M:Nat)(code:Code)(st:St)(Q:Ex->St->Prop):Prop:=
 ∀ (c0:Ctx) (w0:World) (c:Ctx) (w:World) (a:Act),ff N M c0 w0 c w st a->
  code.wpIn (AA ro) 0 P (λe a' w'=>∃ex ji c',mG e=some ex/\Q ex ji/\ff N M c0 w0 c' w' ji a') a w
abbrev Tr:=tG none
def Ctx.oL(c:Ctx)(R:Rows)(ks:List Nat):Ctx:=
 {c with R:=λr=>if cv r ks=true then none else(c.R r).map (Row.lW R ks),I:=λb=>c.I b\/∃r row,cv r ks=true/\c.R r=some row/\¬c.V r/\c.ρ r=b}
section
variable {c:Ctx} {w:World} {R:Rows} {ks:List Nat}
theorem Zgy(R:Rows)(ks:List Nat)(row:Row):(row.lW R ks).box=row.box/\(row.lW R ks).ty=row.ty/\(row.lW R ks).sz=row.sz/\(row.lW R ks).es.l.length=row.es.l.length:=by
 unfold Row.lW;split<;>exact⟨rfl,rfl,rfl,rfl⟩
theorem Z82:∀{e:List D},(D.r4 R ks e).length=e.length
 |[]=>rfl
 |d::l=>by simp[D.r4,Z82 (e:=l)]
theorem Zij:iX (c.kill ks) w (c.oL R ks) w:=by
 refine⟨rfl,aX _,λb h=>⟨.inl h,rfl⟩,λr x hx=>?_⟩
 obtain⟨h1,row,h2,rfl⟩:=mU hx
 obtain⟨s1,s2,s3,s4⟩:=Zgy R ks row
 obtain⟨k1,k2,k3,k4⟩:=uT ks row
 refine⟨row.lW R ks,?_,s1.trans k1.symm,s2.trans k2.symm,s3.trans k3.symm,s4.trans k4.symm,rfl,Iff.rfl,λ_ arr h=>⟨arr,h,rfl⟩⟩
 show(if cv r ks=true then none else(c.R r).map (Row.lW R ks))=_
 rw[h1,h2];rfl
theorem Z1j:∀{ds:List D} {arr:Array Value} {off:Nat},ds.all D.plain=true->ku c w ds arr off->oB c.I w ds arr off
 |[],_,_,_,_=>Df.2 trivial
 |d::ds,arr,off,hp,⟨⟨v,hv,h1⟩,h2⟩=>by
  rw[List.all_cons,aE]at hp
  exact Dg.2 ⟨⟨v,hv,dc.plain hp.1 h1⟩,Z1j hp.2 h2⟩
variable (hm:Mem c w) (hA:∀r,c.R r=R.getD r none)
include hm hA
theorem V3(h:dc c w d v):dc (c.oL R ks) w (d.Bt R ks) v:=by
 have HH:∀{d:D},dc c w d v->dc (c.oL R ks) w (d.ed ks) v:=λh=>Se Zij (Sf h)
 cases d with
 |all r=>
  simp only[D.Bt]
  cases hb:cv r ks with
  |false=>
   have:=HH h
   simpa only[D.ed,hb]using this
  |true=>
   obtain⟨row,g1,g2,hv⟩:=h
   have hr:R.getD r none=some row:=by rw[<-hA r];exact g1
   obtain⟨box,ty,sz,es⟩:=row
   simp only at g2
   subst g2
   simp only[hr]
   rcases hv with⟨hV,a,hv,_⟩|⟨hV,cap,arr,hv,g3,g4,g5,g6⟩
   ·have he:=(hm.nd g1 hV).2.1
    simp only at he
    exact⟨a,0,by rw[he];exact hv,by rw[he];exact aX _,.inl he⟩
   ·obtain⟨iE,ju,hs,hx⟩:=hm.real g1 hV
    simp only at g5 ju hx
    rw[g5]at ju;cases ju
    simp only[aA,if_false]at hx
    exact⟨_,cap,hv,g3,.inr ⟨_,0,arr,_,_,rfl,.inr ⟨r,_,hb,g1,hV,rfl⟩,by simp,g5,ng (λb hb=>⟨.inl hb,rfl⟩) _ _ _ _ hx⟩⟩
 |ptr r i off=>
  simp only[D.Bt]
  cases hb:cv r ks with
  |false=>
   have:=HH h
   simpa only[D.ed,hb]using this
  |true=>
   obtain⟨row,g1,g2,g3,hv⟩:=h
   have hr:R.getD r none=some row:=by rw[<-hA r];exact g1
   simp only
   split
   ·rename_i ty sz e he
    rw[he]at hr;cases hr
    split
    ·rename_i hp
     obtain⟨arr,ha,hs,hx⟩:=hm.real g1 g2
     simp only[if_true]at hx
     obtain⟨e',k1,k2,k3,k4⟩:=hx
     have k1:[e]=[e']:=by injection k1
     have k1:e=e':=(List.cons.inj k1).1
     subst k1
     refine⟨c.ρ r,0,arr,ty,(0,0),?_,.inr ⟨r,_,hb,g1,g2,rfl⟩,g3,ha,pB.2 ⟨k2,Zng (λb hb=>⟨.inl hb,rfl⟩) _ _ _ (Z1j hp k4),pR.2 trivial⟩⟩
     rw[hv];simp
    ·rw[hv];rfl
   ·rw[hv];rfl
 |_=>exact HH h
theorem Zq7:∀{ds:List D} {vs:List Value},je c w ds vs->je (c.oL R ks) w (D.r4 R ks ds) vs
 |[],[],_=>trivial
 |_::_,_::_,h=>⟨V3 hm hA h.1,Zq7 h.2⟩
 |[],_::_,h=>h.elim
 |_::_,[],h=>h.elim
theorem Zox(h:VRep c w d v):VRep (c.oL R ks) w (d.HI R ks) v:=by
 cases d with
 |agg cs=>obtain⟨vs,hv,hr⟩:=h;exact⟨vs,hv,Zq7 hm hA hr⟩
 |_=>
  have:=V3 (ks:=ks) hm hA (VRep.toC (λcs e=>by cases e) h)
  exact VRep.DT this
theorem Zoj:∀{ds:List D} {vs:List Value},j5 c w ds vs->j5 (c.oL R ks) w (D.HJ R ks ds) vs
 |[],[],_=>trivial
 |_::_,_::_,h=>⟨Zox hm hA h.1,Zoj h.2⟩
 |[],_::_,h=>h.elim
 |_::_,[],h=>h.elim
theorem vG(h:Rep c w d v):Rep (c.oL R ks) w (d.Bu R ks) v:=by
 cases d with
 |dv ds=>obtain⟨vs,hv,hr⟩:=h;exact⟨vs,hv,Zoj hm hA hr⟩
 |dead=>trivial
 |_=>
  have:=Zox (ks:=ks) hm hA (Rep.toV (λds e=>by cases e) (λe=>by cases e) h)
  exact Rep.JV this
theorem Zka:∀{ds:List D} {arr:Array Value} {off:Nat},ku c w ds arr off->ku (c.oL R ks) w (D.r4 R ks ds) arr off
 |[],_,_,_=>trivial
 |_::_,_,_,⟨⟨v,hv,h1⟩,h2⟩=>⟨⟨v,hv,V3 hm hA h1⟩,Zka h2⟩
theorem xac(h:DW c w r row):DW (c.oL R ks) w r (row.lW R ks):=by
 obtain⟨s1,s2,s3,s4⟩:=Zgy R ks row
 rcases h with⟨h0,h1,h2,h3⟩|⟨h0,arr,ha,hs,hx⟩
 ·refine .inl ⟨h0,s1.trans h1,?_,by rw[s3];exact h3⟩
  rw[h2]at s4;exact List.eq_nil_of_length_eq_zero s4
 ·refine .inr ⟨h0,arr,by rw[s2];exact ha,by rw[s3];exact hs,?_⟩
  rw[s1,s3]
  split
  ·rename_i hb
   simp only[hb,if_true]at hx
   obtain⟨e,k1,k2,k3,k4⟩:=hx
   obtain⟨box,ty,sz,es⟩:=row
   simp only at hb k1 k2 k3 k4
   subst hb;subst k1
   exact⟨D.r4 R ks e,rfl,by rw[Z82];exact k2,k3,Zka hm hA k4⟩
  ·rename_i hb
   simp only[hb,aA,if_false]at hx
   have he:(row.lW R ks).es=row.es:=by
    unfold Row.lW
    split
    ·simp at hb
    ·rfl
   rw[he];exact ng (λb hb=>⟨.inl hb,rfl⟩) _ _ _ _ hx
omit hm hA in
theorem JY{x:Row}(h:(c.oL R ks).R r=some x):cv r ks=false/\∃row,c.R r=some row/\x=row.lW R ks:=by
 simp only[Ctx.oL]at h
 cases hb:cv r ks with
 |true=>rw[hb]at h;simp at h
 |false=>
  rw[hb]at h
  simp only[aA,if_false,Option.map_eq_some_iff]at h
  obtain⟨row,h1,h2⟩:=h
  exact⟨rfl,row,h1,h2.symm⟩
theorem qad:Mem (c.oL R ks) w:=by
 refine⟨λr x hx=>?_,λr s x y hx hy v1 v2 he=>?_,λb hb=>?_,hm.top,hm.jQ.mono λb hb=>⟨.inl hb,rfl⟩⟩
 ·obtain⟨_,row,h1,rfl⟩:=JY hx
  exact xac hm hA (hm.row r row h1)
 ·obtain⟨_,row,h1,_⟩:=JY hx
  obtain⟨_,ao,h2,_⟩:=JY hy
  exact hm.inj r s row ao h1 h2 v1 v2 he
 ·rcases hb with hb|⟨s,row,h1,h2,h3,rfl⟩
  ·refine⟨(hm.fe b hb).1,λr x hx v=>?_⟩
   obtain⟨_,row,h1,_⟩:=JY hx
   exact(hm.fe b hb).2 r row h1 v
  ·refine⟨hm.lt h2 h3,λr x hx v e=>?_⟩
   obtain⟨h4,ao,h5,_⟩:=JY hx
   have:=hm.inj r s ao row h5 h2 v h3 e
   rw[this,h1]at h4;cases h4
end
theorem Zbu{R0:Rows}{ks:List Nat}:∀{R:Rows} {i r:Nat},(JZ R0 ks R i).getD r none=if cv (i+r) ks=true then none else(R.getD r none).map (Row.lW R0 ks)
 |[],i,r=>by simp[JZ]
 |x::l,i,0=>by
  simp only[JZ,aB]
  cases cv i ks<;>cases x<;>simp
 |x::l,i,r+1=>by
  have:=Zbu (R0:=R0) (ks:=ks) (R:=l) (i:=i+1) (r:=r)
  rw[show i+1+r=i+(r+1) by omega]at this
  simpa[JZ]using this
def tU(R:Rows)(ks:List Nat)(env:List (Nat×D)):List (Nat×D):=env.map λx=>(x.1,x.2.Bu R ks)
theorem Zpa{R:Rows}{ks:List Nat}:∀{env:List (Nat×D)} {K:List (Nat×D)->Prop},DX R ks env K↔K (tU R ks env)
 |[],_=>Iff.rfl
 |(t,d)::l,K=>by
  simp only[DX,D.c8]
  rw[Zpa (env:=l) (K:=λl=>K ((t,d.Bu R ks)::l))]
  rfl
theorem Zqh{R:Rows}{ks:List Nat}:∀{env:List (Nat×D)} {t:Nat},look (tU R ks env) t=(look env t).Bu R ks
 |[],_=>rfl
 |(u,d)::l,t=>by
  simp only[tU,List.map_cons,look]
  split
  ·rfl
  ·exact Zqh (env:=l)
theorem V4{M:Nat}{R:Rows}:∀{l:List Nat} {r:Nat},r∈tV M R l->M<=r
 |x ::l,r,h=>by
  simp only[tV]at h
  split at h
  ·rename_i hb
   rcases List.mem_cons.1 h with e|h
   ·rw[e];rw[aE]at hb;exact lE hb.1
   ·exact V4 h
  ·exact V4 h
theorem zad{c0:Ctx}{c:Ctx}{K:St->Prop}(h:HK T G M ops st K)(hs:ff N M c0 w0 c w st a):∃ji c',K ji/\ff N M c0 w0 c' w ji a:=by
 unfold HK at h
 split at h
 ·exact⟨st,c,h,hs⟩
 ·rename_i ks hk
  have hM:∀k,cv k (tV M st.rows (Sg T G st.env st.rows [] [] ops.toList))=true->M<=k:=λk hk=>V4 (nF.1 hk)
  generalize tV M st.rows (Sg T G st.env st.rows [] [] ops.toList)=ks at*
  rw[Zpa,mX]at h
  have hm:=qad (ks:=ks) hs.mem hs.rows
  refine⟨_,c.oL st.rows ks,h,hm,λr=>?_,λt=>?_,hs.size,hs.defers,hs.fv,hs.gp,hs.reach.step (ks:=ks) hM hs.gp ⟨hm,Zij,Fr.refl _ w,λb hb=>?_,λr ao hr hv=>?_⟩⟩
  ·rw[Zbu,bG,<-hs.rows r];rfl
  ·rw[Zqh];exact vG hs.mem hs.rows (hs.env t)
  ·rcases hb with hb|hb
   ·exact .inl hb
   ·exact .inr (.inl hb)
  ·obtain⟨_,row,h1,_⟩:=JY hr
   exact .inl ⟨⟨row,h1⟩,hv,rfl⟩
theorem vb{c:Ctx}(hm:Mem c w){e e':List D}(hr:c.R r=some ⟨true,ty,sz,.gen [e]⟩)(hl:e'.length=e.length)(hc:∀arr,ku c w e arr 0->ku c w e' arr 0):iX c w (c.jK r ⟨true,ty,sz,.gen [e']⟩) w/\Mem (c.jK r ⟨true,ty,sz,.gen [e']⟩) w:=by
 have hg:iX c w (c.jK r ⟨true,ty,sz,.gen [e']⟩) w:=by
  refine⟨rfl,aX _,λb hb=>⟨hb,rfl⟩,λs x hs=>?_⟩
  by_cases e:s=r
  ·subst e
   rw[hr]at hs;cases hs
   exact⟨⟨true,ty,sz,.gen [e']⟩,by simp[Ctx.jK],rfl,rfl,rfl,rfl,rfl,Iff.rfl,λ_ a ha=>⟨a,ha,rfl⟩⟩
  ·exact⟨x,by simp[Ctx.jK,e,hs],rfl,rfl,rfl,rfl,rfl,Iff.rfl,λ_ a ha=>⟨a,ha,rfl⟩⟩
 have jv:∀s x,(c.jK r ⟨true,ty,sz,.gen [e']⟩).R s=some x->∃x',c.R s=some x':=λs x hs=>by
  by_cases e:s=r
  ·exact⟨_,by rw[e];exact hr⟩
  ·exact⟨x,by simpa[Ctx.jK,e]using hs⟩
 refine⟨hg,λs x hs=>?_,λs q x y hs hq v1 v2 he=>?_,λb ib=>⟨(hm.fe b ib).1,λs x hs hv=>?_⟩,hm.top,hm.jQ⟩
 ·by_cases es:s=r
  ·subst es
   simp only[Ctx.jK,if_true,Option.some.injEq]at hs
   subst hs
   rcases hm.row _ _ hr with⟨g0,g1,g2,g3⟩|⟨g0,arr,g1,g2,g3⟩
   ·cases g1
   ·refine .inr ⟨g0,arr,g1,g2,?_⟩
    simp only[if_true]at g3⊢
    obtain⟨e0,q1,q2,q3,q4⟩:=g3
    cases q1
    exact⟨e',rfl,hl.trans q2,q3,MK hg (hc arr q4)⟩
  ·have iP:c.R s=some x:=by simpa[Ctx.jK,es]using hs
   exact sW hg rfl Iff.rfl (λ_=>rfl) (hm.row s x iP)
 ·obtain⟨x',jD⟩:=jv s x hs
  obtain⟨y',wQ⟩:=jv q y hq
  exact hm.inj s q x' y' jD wQ v1 v2 he
 ·obtain⟨x',jD⟩:=jv s x hs
  exact(hm.fe b ib).2 s x' jD hv
theorem qc(h:tW T R i=some (ty,sz,e,n)):0<n/\∃d,R.getD i none=some ⟨true,ty,sz,.gen [[d]]⟩/\(d=.c9\/d=.emp):=by
 unfold tW at h
 split at h
 ·rename_i jN jX d hr
  have go:∀{x:Option (TypeId×Nat×TypeId×Nat)},x=some (ty,sz,e,n)->(x=match T.get jN with|some ⟨.slice e n,_,_,_,_,_⟩=>(match bN 0 n with|true=>some (jN,jX,e,n)|false=>none)|_=>none)->0<n/\jN=ty/\jX=sz:=by
   intro x hx hy
   rw[hx]at hy
   split at hy
   ·split at hy
    ·rename_i hb;cases hy;exact⟨lE hb,rfl,rfl⟩
    ·cases hy
   ·cases hy
  split at h
  ·obtain⟨h1,rfl,rfl⟩:=go h rfl
   exact⟨h1,_,hr,.inl rfl⟩
  ·obtain⟨h1,rfl,rfl⟩:=go h rfl
   exact⟨h1,_,hr,.inr rfl⟩
  ·cases h
 ·cases h
theorem FO{N M:Nat}{c0:Ctx}{w0:World}{w:World}{a:Act}{T:iu}{env:List (Nat×D)}{K:Rows->Prop}:∀{l:List iy} {R:Rows} {c:Ctx},HL T l env R K->ff N M c0 w0 c w ⟨env,R⟩ a->∃R' c',K R'/\ff N M c0 w0 c' w ⟨env,R'⟩ a
 |[],R,c,h,hs=>⟨R,c,h,hs⟩
 |.int _ _::l,R,c,h,hs=>FO (l:=l) h hs
 |.arr _::l,R,c,h,hs=>FO (l:=l) h hs
 |.sl _ _ _::l,R,c,h,hs=>FO (l:=l) h hs
 |.fn _ _::l,R,c,h,hs=>FO (l:=l) h hs
 |.ptr i _ _::l,R,c,h,hs=>by
  simp only[HL]at h
  split at h
  rotate_left
  ·exact FO (l:=l) h hs
  rename_i ty sz u n hr
  obtain⟨h0,d,h2,hd⟩:=qc hr
  simp only[mX,J0]at h
  have bg:i<R.length:=by
   by_cases bg:i<R.length
   ·exact bg
   ·rw[aV,aJ (by omega)]at h2;cases h2
  rw[List.set_append_left _ _ bg]at h
  have hi:c.R i=some ⟨true,ty,sz,.gen [[d]]⟩:=by rw[hs.rows];exact h2
  have hn:c.R R.length=none:=by rw[hs.rows,aV,aJ (aX _)];rfl
  have gm:i≠R.length:=by omega
  have HM:=V5 hs.mem hn (row:=⟨false,u,n,.gen []⟩) rfl rfl h0
  have V6:=Sh (w:=w) hn ⟨false,u,n,.gen []⟩
  have V7:(c.jl R.length ⟨false,u,n,.gen []⟩).R i=some ⟨true,ty,sz,.gen [[d]]⟩:=by simp[Ctx.jl,gm,hi]
  obtain⟨V8,Bv⟩:=vb (e':=[.all R.length]) HM V7 rfl (λarr hc=>by
   obtain⟨⟨v,hv,h1⟩,_⟩:=hc
   refine⟨⟨v,hv,⟨false,u,n,.gen []⟩,by simp[Ctx.jl],rfl,.inl ⟨.inl rfl,?_⟩⟩,trivial⟩
   rcases hd with rfl|rfl
   ·exact⟨none,h1,ML⟩
   ·exact h1)
  have hg:=V6.trans V8
  have nm:lB c w ((c.jl R.length ⟨false,u,n,.gen []⟩).jK i ⟨true,ty,sz,.gen [[.all R.length]]⟩) w:=by
   refine⟨Bv,hg,Fr.refl _ w,λb hb=>.inl hb,λr ao hr hv=>.inl ?_⟩
   have V9:r≠R.length:=λe=>hv (.inl e)
   by_cases er:r=i
   ·subst er;exact⟨⟨_,hi⟩,λe=>hv (.inr e),rfl⟩
   ·exact⟨⟨ao,by simpa[Ctx.jK,Ctx.jl,er,V9]using hr⟩,λe=>hv (.inr e),rfl⟩
  refine FO (l:=l) h ⟨Bv,λr=>?_,λt=>Qb hg (hs.env t),hs.size,hs.defers,hs.fv,hs.gp,hs.reach.step (ks:=[]) (λk hk=>by simp[cv]at hk) hs.gp nm.toK⟩
  simp only[Ctx.jK,Ctx.jl]
  by_cases er:r=i
  ·subst er
   simp[aV,bI (show r<(R.set r _).length by simpa using bg),bg]
  ·rw [if_neg er]
   by_cases en:r=R.length
   ·subst en
    simp[aV]
   ·rw[if_neg en,hs.rows]
    by_cases hl:r<R.length
    ·simp[aV,bI (show r<(R.set i _).length by simpa using hl),List.getElem?_set_ne (Ne.symm er)]
    ·have h1:R.getD r none=none:=by rw[aV,aJ (by omega)];rfl
     rw[h1,aV,aJ (by simp;omega)];rfl
