import Derived.Test.YtaemmjbkndlkeaaGreatMigrateOrdersFk
import Derived.Laws.IdiomStrings
import Derived.Laws.BytesArg
import Derived.Laws.Cover3
import Derived.RangeFuncRecord
import Derived.OrdersIn
import Derived.LoopNIn
open List renaming getD->aV,getElem?_take->aF,getElem?_toArray->bH,getElem?_append_left->bI,size_toArray->aK,getElem?_append_right->bJ,length_take->aD,length_drop->aG,getElem?_eq_none->aJ,range'->bO,map_append->bP,map_congr_left->bQ,ext_getElem->bR,getElem_map->bS,getElem_range'->bT,map_toArray->bV
open Nat renaming mul_le_mul_right->bD,succ_mul->bF,zero_add->bG,add_mul->bK,le_refl->aX,add_zero->aB,le_trans->bL,lt_of_lt_of_le->bM,blt->bN
open Bool renaming or_eq_true->aT,false_eq_true->aA
open Array renaming getD->aY,empty_append->bU,toArray_toList->bW
open Option renaming bind_some->aW
set_option linter.all false
namespace Go.GD
open Go
variable {B M N g i id j k n r sz:Nat}{G:List ba}{I:ae}{K:D->Prop}{P:Program}{Q:Exit->Act->World->Prop}{R R':Rows}{T:iu}{a:Act}{after:Array Edge}{args:Array Operand}{b want:Bool}{cs:List iB}{d val x:D}{ds:List Deferred}{dst:Option Tmp}{e ty type:TypeId}{es:ai}{ev:Operand->D}{ks:List Nat}{news us:List Value}{o:Oper}{ops:Array Oper}{pos:String}{ro:Option Nat}{row:Row}{st:St}{dj:Array TypeId}{v:Value}{w w' w0:World}
theorem Zio(w:World){t tx ty e:TypeId}{i:TypeInfo}(ht:P.underlying t=some (.slice e))(hi:P.info? e=some i)
 {a:Option Addr} {n cap m:Nat} {x:Value} {news:List Value} (hl:(Builtin.lenOf x).run P w=.ok m w) (hf:(Builtin.firstCells i.size (min m n) x).run P w=.ok news.toArray w) {w':World}
 (jV:∀b,a=some b->(storeCells b news).run P w=.ok () w') (nh:a=none->w'=w):
 (Builtin.copy_ #[t,tx] ty #[.slice a n cap,x]).run P w=.ok (.int .i64 (min m n:Nat)) w':=by
 cases a with
 |none=>
  have:=nh rfl
  subst this
  simp[Builtin.copy_,run_underlying ht,sizeOf,typeInfo,hi,hl,goInt,hf]
 |some b=>simp[Builtin.copy_,run_underlying ht,sizeOf,typeInfo,hi,hl,goInt,hf,jV b rfl]
theorem Zc7{es:List (List D)}(h:ik I w es news.toArray 0 sz)(hk:k<=es.length):ik I w (es.take k) (news.take (k*sz)).toArray 0 sz:=by
 rw[tA]at h⊢
 intro i hi
 have iD:i<k:=by simp at hi;omega
 obtain⟨h1,h2⟩:=h i (by omega)
 have he:(es.take k).getD i []=es.getD i []:=by simp[aV,aF,iD]
 rw[he]
 refine⟨h1,?_⟩
 rw[tX]at h2⊢
 intro j hj
 obtain⟨v,hv,hp⟩:=h2 j hj
 refine⟨v,?_,hp⟩
 have bd:i*sz+j<k*sz:=by
  have:=bD sz (show i+1<=k by omega)
  rw[bF]at this
  omega
 simp only[bG,bH]at hv⊢
 rw[aF,if_pos bd]
 exact hv
theorem Z1s{es ys:List (List D)}{A B:List Value}(h1:ik I w es A.toArray 0 sz)(hA:A.length=es.length*sz)(h2:ik I w ys B.toArray 0 sz):ik I w (es++ys) (A++B).toArray 0 sz:=by
 rw[tA]at h1 h2⊢
 intro i hi
 by_cases bd:i<es.length
 ·have he:(es++ys).getD i []=es.getD i []:=by simp[aV,bI bd]
  rw[he]
  obtain⟨g1,g2⟩:=h1 i bd
  refine⟨g1,?_⟩
  rw[tX]at g2⊢
  intro j hj
  obtain⟨v,hv,hp⟩:=g2 j hj
  refine⟨v,?_,hp⟩
  have hl:=(Array.getElem?_eq_some_iff.1 hv).1
  simp only[bH,aK]at hv hl⊢
  rw[bI hl];exact hv
 ·have iD:i-es.length<ys.length:=by simp at hi;omega
  have he:(es++ys).getD i []=ys.getD (i-es.length) []:=by simp[aV,bJ (show es.length<=i by omega)]
  rw[he]
  obtain⟨g1,g2⟩:=h2 _ iD
  refine⟨g1,?_⟩
  rw[tX]at g2⊢
  intro j hj
  obtain⟨v,hv,hp⟩:=g2 j hj
  refine⟨v,?_,hp⟩
  simp only[bH]at hv⊢
  have e:0+i*sz+j=A.length+(0+(i-es.length)*sz+j):=by
   rw[hA,show i*sz=(es.length+(i-es.length))*sz by congr 1;omega,bK];omega
  rw[e,bJ (by omega)]
  rw[show A.length+(0+(i-es.length)*sz+j)-A.length=0+(i-es.length)*sz+j by omega]
  exact hv
theorem Zt3{es:List (List D)}{arr:Array Value}(h:ik I w es arr 0 sz):ik I w (es.drop k) (arr.toList.drop (k*sz)).toArray 0 sz:=by
 have:=Kn (l:=k) h
 rw[tA]at this⊢
 intro i hi
 obtain⟨h1,h2⟩:=this i hi
 refine⟨h1,?_⟩
 rw[tX]at h2⊢
 intro j hj
 obtain⟨v,hv,hp⟩:=h2 j hj
 refine⟨v,?_,hp⟩
 simp only[bH,List.getElem?_drop]
 rw[<-hv]
 simp[Nat.add_assoc]
theorem qG{c:Ctx}(hm:Mem c w){row ao:Row}(hr:c.R r=some row)(h1:ao.box=row.box)(hb:row.box=false)(h2:ao.ty=row.ty)(h3:ao.sz=row.sz)(h4:ao.es.l=row.es.l):ja c w (c.jP r ao) w/\Mem (c.jP r ao) w:=by
 have hg:ja c w (c.jP r ao) w:=by
  refine⟨rfl,aX _,λb hb=>⟨hb,rfl⟩,λs x hs=>?_⟩
  by_cases e:s=r
  ·subst e
   rw[hr]at hs;cases hs
   exact⟨ao,by simp[Ctx.jP],h1,h2,h3,by rw[h4],rfl,Iff.rfl,λ_ a ha=>⟨a,ha,rfl⟩⟩
  ·exact⟨x,by simp[Ctx.jP,e,hs],rfl,rfl,rfl,rfl,rfl,Iff.rfl,λ_ a ha=>⟨a,ha,rfl⟩⟩
 have jD:∀s x,(c.jP r ao).R s=some x->∃x',c.R s=some x':=λs x hs=>by
  by_cases e:s=r
  ·exact⟨row,by rw[e];exact hr⟩
  ·exact⟨x,by simpa[Ctx.jP,e]using hs⟩
 refine⟨hg,λs x hs=>?_,λs q x y hs hq v1 v2 he=>?_,λb ie=>⟨(hm.fe b ie).1,λs x hs hv=>?_⟩,hm.top,hm.jU⟩
 ·by_cases e:s=r
  ·subst e
   simp only[Ctx.jP,if_true,Option.some.injEq]at hs
   subst hs
   rcases hm.row _ row hr with⟨g0,g1,g2,g3⟩|⟨g0,arr,g1,g2,g3⟩
   ·exact .inl ⟨g0,h1.trans g1,h4.trans g2,by rw[h3];exact g3⟩
   ·refine .inr ⟨g0,arr,by rw[h2];exact g1,by rw[h3];exact g2,?_⟩
    rw[if_neg (by rw[hb];simp)]at g3
    rw[if_neg (by rw[h1,hb];simp),h4,h3]
    exact g3
  ·have iS:c.R s=some x:=by simpa[Ctx.jP,e]using hs
   exact tz hg rfl Iff.rfl (λ_=>rfl) (hm.row s x iS)
 ·obtain⟨x',jJ⟩:=jD s x hs
  obtain⟨y',Ag⟩:=jD q y hq
  exact hm.inj s q x' y' jJ Ag v1 v2 he
 ·obtain⟨x',jJ⟩:=jD s x hs
  exact(hm.fe b ie).2 s x' jJ hv
theorem za(hT:jg P T){t tx ty:TypeId}{x y:D}{K:D->Rows->Prop}(h:tY T t tx x y R K):
 ∃ val R',K val R'/\∀c w vx vy,Mem c w->(∀r,c.R r=R.getD r none)->Rep c w x vx->Rep c w y vy->
  ∃v' w' c',(Builtin.copy_ #[t,tx] ty #[vx,vy]).run P w=.ok v' w'/\lT c w c' w'/\(∀r,c'.R r=R'.getD r none)/\Rep c' w' val v':=by
 unfold tY at h
 split at h
 ·rename_i e iF _ _ _ _ _ ht
  have hk:=mK hT ht
  simp only at hk
  split at h
  ·rename_i ke sz lL cs z q kx _ _ _ _ _ he htx
   obtain⟨i0,pE,BJ,_,Ko,Ah,_⟩:=Qc (hT.get he)
   simp only at BJ
   split at h
   ·rename_i sy ys jR
    simp only[dd,aE,aT]at h
    obtain⟨⟨⟨h0,h1⟩,h5⟩,h⟩:=h
    have h0:0<sz:=lE h0
    have h5:sy=sz\/ys.l=[]:=h5.imp bE SH
    have core:∀(r o n k:Nat) (jS:TypeId) (es iT:ai),iT.l=es.l.take o++ys.l.take k++es.l.drop (o+k)->R.getD r none=some ⟨false,jS,sz,es⟩->k=min ys.l.length n->o+n<=es.l.length->∀c w vx vy,Mem c w->(∀r,c.R r=R.getD r none)->
     ((n=0/\∃a,vx=.slice a 0 0)\/(¬c.V r/\∃cap arr,vx=.slice (some ⟨c.ρ r,o*sz,none⟩) n cap/\w.heap[c.ρ r]?=some (.cells arr jS (0,0))))->Rep c w y vy->
     ∃v' w' c',(Builtin.copy_ #[t,tx] ty #[vx,vy]).run P w=.ok v' w'/\lT c w c' w'/\(∀q,c'.R q=(R.set r (some ⟨false,jS,sz,iT⟩)).getD q none)/\v'=.int .i64 (k:Nat):=by
     intro r o n k jS es iT Ie hr we Kp c w vx vy hm hR hx hy
     have o5:mn c R:=λr row ao g1 g2=>by rw[hR,g2]at g1;exact(Option.some.inj g1).symm
     obtain⟨news,s1,s2,s3,s4⟩:=y7 (P:=P) h0 jR h5 hm o5 hy
     have cz:c.R r=some ⟨false,jS,sz,es⟩:=by rw[hR];exact hr
     rcases hx with⟨hn0,a,hx⟩|⟨hV,cap,arr,hx,hh⟩
     ·subst hx
      have Ah:k=0:=by omega
      have ij:=Zio (P:=P) w (ty:=ty) (tx:=tx) (a:=a) (n:=0) (cap:=0) (news:=[]) (w':=w) hk.1 pE s2 (by rw[BJ];simpa using s3 0 (Nat.zero_le _) w rfl) (λb _=>by simp[storeCells]) (λ_=>rfl)
      have hl:iT.l=es.l:=by rw[Ie,Ah];simp
      obtain⟨u1,u2⟩:=qG hm cz (ao:=⟨false,jS,sz,iT⟩) rfl rfl rfl rfl hl
      refine⟨_,w,c.jP r ⟨false,jS,sz,iT⟩,ij,⟨u2,u1,Fr.refl _ w,λb hb=>.inl hb,λq row hq v=>.inl ⟨?_,v,rfl⟩⟩,λq=>?_,by rw[Ah];simp⟩
      ·by_cases e:q=r
       ·exact⟨_,by rw[e];exact cz⟩
       ·exact⟨row,by simpa[Ctx.jP,e]using hq⟩
      ·rw[Ew hr]
       simp only[Ctx.jP]
       split
       ·rfl
       ·exact hR q
     ·subst hx
      obtain⟨cur,ha,_,hE⟩:=hm.real cz hV
      simp only at ha
      rw[hh]at ha;cases ha
      simp only[aA,if_false]at hE
      have kO:es.l.length*sz<=arr.size:=by
       by_cases he:es.l.length=0
       ·rw[he];omega
       ·have:=Z55 hE h0 (show es.l.length-1<es.l.length by omega)
        have e1:es.l.length*sz=(es.l.length-1)*sz+sz:=by rw[show es.l.length*sz=(es.l.length-1+1)*sz by congr 1;omega,bF]
        omega
      have Wl:k<=ys.l.length/\k<=n:=by omega
      have mP:o*sz+0+(news.take (k*sz)).length<=arr.size:=by
       have h1:(o+k)*sz<=es.l.length*sz:=bD _ (by omega)
       rw[bK]at h1
       rw[aD];omega
      have hlen:(news.take (k*sz)).length=k*sz:=by
       have:=bD sz Wl.1
       rw[aD];omega
      have jV:=run_storeCells_at (P:=P) (c.ρ r) (o*sz) jS (news.take (k*sz)) 0 arr w hh mP (λu hu=>ik.one s4 s1 u (List.mem_of_mem_take hu))
      have ij:=Zio (P:=P) w (ty:=ty) (tx:=tx) (a:=some ⟨c.ρ r,o*sz,none⟩) (n:=n) (cap:=cap) (news:=news.take (k*sz)) (w':=w.setRow (c.ρ r) (arr.toList.take (o*sz+0)++news.take (k*sz)++arr.toList.drop (o*sz+0+(news.take (k*sz)).length)).toArray) hk.1 pE s2 (by rw[BJ,<-we];exact s3 k Wl.1 w rfl) (λb hb=>by cases hb;simpa using jV) (λh=>by cases h)
      have wj:iT.l.length=es.l.length:=by rw[Ie];simp only[lA,aD,aG];omega
      have hw:=hm.write (ao:=⟨false,jS,sz,iT⟩) cz hV hh (arr:=(arr.toList.take (o*sz+0)++news.take (k*sz)++arr.toList.drop (o*sz+0+(news.take (k*sz)).length)).toArray)
       (by simp only[aK,lA,aD,aG,Array.length_toList];simp only[aD]at mP;omega) rfl rfl rfl wj
      have jc:=hw.2 ⟨h0,by
       simp only[aA,if_false]
       rw[Ie]
       refine nC (λb hb=>⟨hb,(hw.1.I b hb).2⟩) _ _ _ _ ?_
       have p1:=Zc7 (k:=o) (I:=c.I) (w:=w) (news:=arr.toList) (es:=es.l) (sz:=sz) (by simpa using hE) (by omega)
       have p2:=Zc7 (k:=k) s4 Wl.1
       have p3:=Zt3 (k:=o+k) hE
       have l1:(arr.toList.take (o*sz)).length=(es.l.take o).length*sz:=by
        have:=bD sz (show o<=es.l.length by omega)
        rw[aD,aD,show min o es.l.length=o by omega,show arr.toList.length=arr.size from rfl];omega
       have q1:=Z1s p1 l1 p2
       have l2:(arr.toList.take (o*sz)++news.take (k*sz)).length=(es.l.take o++ys.l.take k).length*sz:=by
        rw[lA,l1,hlen,lA,bK,aD (l:=ys.l),show min k ys.l.length=k by omega]
       have q2:=Z1s q1 l2 p3
       have e2:o*sz+0+(news.take (k*sz)).length=(o+k)*sz:=by rw[hlen,bK];omega
       rw[e2]
       simpa using q2⟩
      refine⟨_,_,c.jP r ⟨false,jS,sz,iT⟩,ij,⟨jc,hw.1,(Sv w _ _).mono λb _ hb=>⟨r,_,cz,hV,hb.symm⟩,λb hb=>.inl hb,λq ao hq v=>.inl ⟨?_,v,rfl⟩⟩,λq=>?_,by rw[we]⟩
      ·by_cases e:q=r
       ·exact⟨_,by rw[e];exact cz⟩
       ·exact⟨ao,by simpa[Ctx.jP,e]using hq⟩
      ·rw[Ew hr]
       simp only[Ctx.jP]
       split
       ·rfl
       ·exact hR q
    cases x<;>simp only at h
    case all r=>
     split at h
     ·rename_i jS s es hr
      simp only[dd,nm]at h
      have hs:=bE h.1
      subst hs
      refine⟨_,_,h.2,λc w vx vy hm hR hx hy=>?_⟩
      obtain⟨row,q1,q2,hv⟩:=hx
      have cz:row=⟨false,jS,s,es⟩:=by rw[hR,hr]at q1;exact(Option.some.inj q1).symm
      subst cz
      have jJ:(es.l.length=0/\∃a,vx=.slice a 0 0)\/(¬c.V r/\∃cap arr,vx=.slice (some ⟨c.ρ r,0*s,none⟩) es.l.length cap/\w.heap[c.ρ r]?=some (.cells arr jS (0,0))):=by
       rcases hv with⟨hV,a,hv,_⟩|⟨hV,cap,arr,hv,h1,h2,h3,h4⟩
       ·have:=(hm.nA q1 hV).2.1
        simp only at this
        exact .inl ⟨by rw[this];rfl,a,hv⟩
       ·exact .inr ⟨hV,cap,arr,by rw[Nat.zero_mul];exact hv,h3⟩
      obtain⟨v',w',c',p1,p2,p3,p4⟩:=core r 0 es.l.length _ jS es ((ys.take (min ys.len es.len)).app (es.drop (min ys.len es.len))) (by rw[ai.j4,ai.iW,ai.kh,ai.iq,ai.iq];simp) hr rfl (by omega) c w vx vy hm hR jJ hy
      exact⟨v',w',c',p1,p2,p3,by rw[p4,ai.iq,ai.iq];rfl⟩
     ·exact h.elim
    case own r o n=>
     split at h
     ·rename_i jS s es hr
      simp only[dd,nm]at h
      have hs:=bE h.1
      subst hs
      refine⟨_,_,h.2,λc w vx vy hm hR hx hy=>?_⟩
      obtain⟨row,q1,q2,ho,hv⟩:=hx
      have cz:row=⟨false,jS,s,es⟩:=by rw[hR,hr]at q1;exact(Option.some.inj q1).symm
      subst cz
      have jJ:(n=0/\∃a,vx=.slice a 0 0)\/(¬c.V r/\∃cap arr,vx=.slice (some ⟨c.ρ r,o*s,none⟩) n cap/\w.heap[c.ρ r]?=some (.cells arr jS (0,0))):=by
       rcases hv with⟨h0,a,hv,_⟩|⟨hV,cap,arr,h1,h2,h3,hv,h4⟩
       ·exact .inl ⟨h0,a,hv⟩
       ·exact .inr ⟨hV,cap,arr,hv,h3⟩
      obtain⟨v',w',c',p1,p2,p3,p4⟩:=core r o n _ jS es (((es.take o).app (ys.take (min ys.len n))).app (es.drop (o+min ys.len n))) (by rw[ai.j4,ai.j4,ai.iW,ai.iW,ai.kh,ai.iq]) hr rfl ho c w vx vy hm hR jJ hy
      exact⟨v',w',c',p1,p2,p3,by rw[p4,ai.iq];rfl⟩
     ·exact h.elim
   ·exact h.elim
  ·exact h.elim
 ·exact h.elim
theorem Zqd{mx:Bool}{x y:D}(h:wm mx x y K):∃val,K val/\∀(P:Program) c w vx vy,Rep c w x vx->Rep c w y vy->∃u,((mx=false->∀dj ty,(Builtin.min_ dj ty #[vx,vy]).run P w=.ok u w)/\(mx=true->∀dj ty,(Builtin.max_ dj ty #[vx,vy]).run P w=.ok u w))/\Rep c w val u:=by
 unfold wm at h
 split at h
 ·rename_i k a k' b
  simp only[dd,decide_eq_true_eq]at h
  obtain⟨rfl,h⟩:=h
  refine⟨_,h,λP c w vx vy hx hy=>⟨_,⟨λe dj ty=>?_,λe dj ty=>?_⟩,rfl⟩⟩
  ·subst e
   rw[Rep.int.1 hx,Rep.int.1 hy]
   simp[Builtin.min_,Builtin.min2]
  ·subst e
   rw[Rep.int.1 hx,Rep.int.1 hy]
   simp[Builtin.max_,Builtin.max2]
 ·exact h.elim
theorem Zkr(hT:jg P T){t:TypeId}(h:Kq T t es K):K (.mW es)/\∀c w vx vy,(∃a n cap,vx=.slice a n cap/\(a=none->es.l=[]))->Rep c w .c7 vy->∃u,(∀x y,(do eqGuard .eql t x y vx vy;binOp .eql t vx vy).run P w=.ok u w)/\Rep c w (.mW es) u:=by
 unfold Kq at h
 split at h
 ·rename_i e n _ _ _ _ _ ht
  have hk:=mK hT ht
  simp only at hk
  refine⟨h,λc w vx vy hx hy=>?_⟩
  obtain⟨a,len,cap,hv,gy⟩:=hx
  rw[show vy=_ from hy,hv]
  refine⟨.bool a.isNone,λx y=>?_,a.isNone,rfl,λe'=>?_⟩
  ·have hg:(eqGuard .eql t x y (.slice a len cap) (.slice none 0 0)).run P w=.ok () w:=rfl
   rw[Sem.run_bind,hg]
   simp only[Result.andThen_ok,binOp]
   simp only[run_equal_slice_nil w t e a len cap hk.1,Sem.run_bind,Result.andThen_ok,Sem.run_pure]
  ·exact gy (by cases a<;>simp_all)
 ·exact h.elim
theorem xG(hT:jg P T){t:TypeId}(h:Kq T t es K):K (.mW es)/\∀s fr c w vx vy,Rep c w (.sl s es fr) vx->Rep c w .c7 vy->∃u,(∀x y,(do eqGuard .eql t x y vx vy;binOp .eql t vx vy).run P w=.ok u w)/\Rep c w (.mW es) u:=by
 obtain⟨h1,h2⟩:=Zkr hT h
 refine⟨h1,λs fr c w vx vy hx hy=>h2 c w vx vy ?_ hy⟩
 obtain⟨a,cap,hv,hc,gy⟩:=hx
 refine⟨a,_,cap,hv,λha=>?_⟩
 rcases gy with gy|⟨b,off,arr,ty,fz,hb,_⟩
 ·exact gy
 ·rw[ha]at hb;cases hb
theorem ya(hT:jg P T){t:TypeId}{bx:Bool}{jS j5:Nat}(hR:R.getD r none=some ⟨bx,jS,j5,es⟩)(h:Kq T t es K):K (.mW es)/\∀c w vx vy,Mem c w->mn c R->Rep c w (.all r) vx->Rep c w .c7 vy->∃u,(∀x y,(do eqGuard .eql t x y vx vy;binOp .eql t vx vy).run P w=.ok u w)/\Rep c w (.mW es) u:=by
 obtain⟨h1,h2⟩:=Zkr hT h
 refine⟨h1,λc w vx vy hm hA hx hy=>h2 c w vx vy ?_ hy⟩
 obtain⟨row,g1,g2,hv⟩:=hx
 have:=hA r row _ g1 hR
 subst this
 rcases hv with⟨hV,a,hv,_⟩|⟨hV,cap,arr,hv,_⟩
 ·exact⟨a,0,0,hv,λ_=>(hm.nA g1 hV).2.1⟩
 ·exact⟨_,_,cap,hv,λe=>by cases e⟩
theorem Zr0{l:List Int}(h:ik I w (ai.ints .u8 l).l news.toArray 0 1)(hl:news.length=(ai.ints .u8 l).l.length*1):news=l.map (Value.int .u8):=by
 have pF:news.length=l.length:=by simpa[ai.len]using hl
 apply List.ext_getElem?
 intro i
 by_cases hi:i<l.length
 ·obtain⟨h1,h2⟩:=tA.1 h i (by simpa[ai.len]using hi)
  rw[ai.nn _ (show i<(ai.ints .u8 l).len from hi)]at h2
  simp only[ai.get,DJ,DK,se,si,sj,sk,sn,so,tC,tZ,ua,ub,uc,ud,ue,uf,ug,uh,and_true]at h2
  obtain⟨v,hv,hp⟩:=h2
  simp only[bG,Nat.mul_one,aB,bH]at hv
  rw[hv,hp]
  simp[aV,hi]
 ·rw[aJ (by omega),aJ (by simp;omega)]
theorem zG(hT:jg P T){s e d:TypeId}{n a1 a2:Nat}{a3:List sq}{a4:Option (List D)}{a5:Bool}(hs:T.get s=some ⟨.slice e n,a1,a2,a3,a4,a5⟩)(h:wo T e d x R K):
 ∃val,K val/\∀c w v,Mem c w->mn c R->Rep c w x v->Gs P (convert s d v) w c val:=by
 unfold wo at h
 split at h
 ·rename_i he hd
  have kE:=mK hT hs
  have rH:=mK hT he
  have Kr:=mK hT hd
  simp only at kE rH Kr
  split at h
  ·rename_i sy es jR
   split at h
   rotate_left
   ·exact h.elim
   rename_i l hto
   have Gt:=ai.toI_l hto
   simp only[dd,aT]at h
   obtain⟨h5,h⟩:=h
   have h5:sy=1\/es.l=[]:=h5.imp bE SH
   refine⟨_,h,λc w v hm hA hr=>?_⟩
   have hsl:∃a cap,v=.slice a es.l.length cap:=by
    cases x<;>simp only[sr]at jR<;>try(cases jR;done)
    case c7=>cases jR;exact⟨none,0,hr⟩
    case emp=>cases jR;obtain⟨a,hr,_⟩:=hr;exact⟨a,0,hr⟩
    case sl=>cases jR;obtain⟨a,cap,hv,_⟩:=hr;exact⟨a,cap,hv⟩
    case all r=>
     split at jR
     ·rename_i jS s' iT hR
      cases jR
      obtain⟨row,g1,g2,hv⟩:=hr
      have:=hA r row _ g1 hR
      subst this
      rcases hv with⟨hV,a,hv,_⟩|⟨hV,cap,arr,hv,_⟩
      ·have he:=(hm.nA g1 hV).2.1
       simp only at he
       exact⟨a,0,by rw[he];exact hv⟩
      ·exact⟨_,cap,hv⟩
     ·cases jR
    case own r o m=>
     split at jR
     ·rename_i jS s' iT hR
      cases jR
      obtain⟨row,g1,g2,g5,hv⟩:=hr
      have:=hA r row _ g1 hR
      subst this
      simp only at g5
      have hlen:((iT.drop o).take m).l.length=m:=by rw[ai.iW,ai.kh];simp only[aD,aG];omega
      rw[hlen]
      rcases hv with⟨h0,a,hv,_⟩|⟨hV,cap,arr,_,_,_,hv,_⟩
      ·subst h0;exact⟨a,0,hv⟩
      ·exact⟨_,cap,hv⟩
     ·cases jR
   obtain⟨a,cap,hv⟩:=hsl
   subst hv
   obtain⟨news,s1,s2,s3,s4⟩:=z7 (P:=P) (by omega) jR h5 hm hA hr
   rw[Gt]at s1 s4
   have hn:=Zr0 s4 s1
   have hlen:es.l.length=l.length:=by rw[Gt];simp[ai.len]
   have hf:=s3 es.l.length (aX _) w rfl
   rw[List.take_of_length_le (by rw[hn,hlen];simp)]at hf
   refine⟨.string ⟨(bytesOf l).toArray⟩,?_,rfl⟩
   rw[run_convert_bytes_string w s d e a es.l.length cap kE.1 rH Kr]
   cases a with
   |none=>
    simp only[Builtin.firstCells,Sem.run_pure,Result.ok.injEq,and_true]at hf
    have h1:news=[]:=by
     have:=congrArg Array.toList hf
     simpa using this.symm
    have he:l=[]:=by rw[h1]at hn;simpa using hn.symm
    subst he
    simp only[Conv.bytesToString,Sem.run_pure,bytesOf,List.map_nil]
    rfl
   |some a=>
    simp only[Builtin.firstCells,Nat.mul_one]at hf
    rw[hn]at hf
    rw[run_bytesToString w a es.l.length cap _ hf,foldl_push_bytes]
    have he0:ByteArray.empty.data= #[]:=rfl
    rw[he0]
    simp[bytesOf]
  ·exact h.elim
 ·exact h.elim
structure Ab(c0:Ctx)(w0:World)(c:Ctx)(w:World):Prop where
 cy:ja c0 w0 c w
 fr:Fr (λb=>(∃r x,c0.R r=some x/\¬c0.V r/\c0.ρ r=b)\/c0.X b) w0 w
 fe:∀b,c.I b->c0.I b\/c0.X b\/w0.heap.size<=b
 om:∀r row,c.R r=some row->¬c.V r->((∃x,c0.R r=some x)/\¬c0.V r/\c.ρ r=c0.ρ r)\/c0.X (c.ρ r)\/w0.heap.size<=c.ρ r
 xb:∀b,c0.X b->c0.base<=b
theorem Ab.refl(c:Ctx)(w:World):Ab {c with X:=λ_=>False} w c w:=
 ⟨⟨rfl,aX _,λ_ h=>⟨h,rfl⟩,λ_ row h=>⟨row,h,rfl,rfl,rfl,rfl,rfl,Iff.rfl,λ_ arr h=>⟨arr,h,rfl⟩⟩⟩,Fr.refl _ w,λ_ h=>.inl h,λ_ row h v=>.inl ⟨⟨row,h⟩,v,rfl⟩,λ_ h=>h.elim⟩
theorem Zlj{c0 c:Ctx}(hM:∀k,da k ks=true->M<=k)(Ey:∀r row,c0.R r=some row->r<M)(h:ja c0 w0 c w):ja c0 w0 (c.kill ks) w:=by
 refine⟨h.base,h.top,h.I,λr row hr=>?_⟩
 obtain⟨ao,g1,g2,g3,g4,g5,g6,gV,g7⟩:=h.R r row hr
 obtain⟨s1,s2,s3,s4⟩:=wq ks ao
 have bd:=Ey r row hr
 refine⟨ao.kill ks,?_,s1.trans g2,s2.trans g3,s3.trans g4,s4.trans g5,g6,gV,g7⟩
 simp only[Ctx.kill]
 rw[if_neg (λe=>by have:=hM r e;omega),g1];rfl
theorem Ab.step{c0 c c':Ctx}(hM:∀k,da k ks=true->M<=k)(Ey:∀r row,c0.R r=some row->r<M)(h:Ab c0 w0 c w)(n:jK ks c w c' w'):Ab c0 w0 c' w':=by
 have BK:∀s x,da s ks=true->c.R s=some x->¬c.V s->c0.X (c.ρ s)\/w0.heap.size<=c.ρ s:=λs x hs hx v'=>by
  rcases h.om s x hx v' with⟨⟨y,hy⟩,_⟩|e'
  ·have:=Ey s y hy;have:=hM s hs;omega
  ·exact e'
 refine⟨(Zlj hM Ey h.cy).trans n.cy,⟨n.fr.os.trans h.fr.os,n.fr.tape.trans h.fr.tape,n.fr.output.trans h.fr.output,bL h.fr.size n.fr.size,λb hb hx=>?_⟩,λb hb=>?_,λr row hr hv=>?_,h.xb⟩
 ·have bd:b<w.heap.size:=bM hb h.fr.size
  refine(n.fr.heap b bd fun⟨r,x,hr,v,e⟩=>?_).trans (h.fr.heap b hb hx)
  rcases h.om r x hr v with⟨⟨y,hy⟩,v',e'⟩|e'|e'
  ·exact hx (.inl ⟨r,y,hy,v',by rw[<-e',e]⟩)
  ·exact hx (.inr (by rw[<-e];exact e'))
  ·omega
 ·rcases n.fe b hb with h1|⟨s,x,hs,hx,v',e⟩|h1
  ·exact h.fe b h1
  ·rcases BK s x hs hx v' with h1|h1
   ·exact .inr (.inl (by rw[<-e];exact h1))
   ·exact .inr (.inr (by omega))
  ·have:=h.fr.size;exact .inr (.inr (by omega))
 ·rcases n.om r row hr hv with⟨⟨x,hx⟩,v',e⟩|⟨s,x,hs,hx,v',e⟩|e
  ·rcases h.om r x hx v' with⟨h1,h2,e'⟩|e'|e'
   ·exact .inl ⟨h1,h2,e.trans e'⟩
   ·exact .inr (.inl (by rw[e];exact e'))
   ·exact .inr (.inr (by omega))
  ·rcases BK s x hs hx v' with h1|h1
   ·exact .inr (.inl (by rw[e];exact h1))
   ·exact .inr (.inr (by omega))
  ·have:=h.fr.size;exact .inr (.inr (by omega))
def mf(n:Nat)(w:World)(ds:List Deferred):Prop:=∃bs:List Nat,bs.Nodup/\ds=bs.map (λb=>({target:=.collected b,args:= #[]}:Deferred))/\∀b∈bs,n<=b/\w.heap[b]?=some (.deferred (some []))
theorem mf.nil:mf n w []:=⟨[],List.nodup_nil,rfl,λb hb=>by simp at hb⟩
theorem mf.to(h:mf n w ds)(hf:∀b:Nat,w.heap[b]?=some (Obj.deferred (some []))->w'.heap[b]?=some (Obj.deferred (some []))):mf n w' ds:=by
 obtain⟨bs,h1,h2,h3⟩:=h
 exact⟨bs,h1,h2,λb hb=>⟨(h3 b hb).1,hf b (h3 b hb).2⟩⟩
theorem mf.step{c:Ctx}(h:mf n w ds)(hm:Mem c w)(hf:Fr (λb=>∃r x,c.R r=some x/\¬c.V r/\c.ρ r=b) w w'):mf n w' ds:=by
 refine h.to λb h2=>(hf.heap b (Array.getElem?_eq_some_iff.1 h2).1 fun⟨r,x,hr,hV,e⟩=>?_).trans h2
 rcases hm.row r x hr with h3|⟨_,arr,h3,_⟩
 ·exact hV h3.1
 ·rw[e,h2]at h3;cases h3
theorem mf.put(h:mf n w a.defers):mf n w (a.put dst v).defers:=by
 cases dst<;>exact h
structure ff(N M:Nat)(c0:Ctx)(w0:World)(c:Ctx)(w:World)(st:St)(a:Act):Prop where
 mem:Mem c w
 rows:∀r,c.R r=st.rows.getD r none
 env:∀t,Rep c w (look st.env t) (a.tmps.getD t undef)
 size:N<=a.tmps.size
 defers:mf w0.heap.size w a.defers
 fw:c0.base<=w0.heap.size
 gr:∀r row,c0.R r=some row->r<M
 reach:Ab c0 w0 c w
theorem ff.base{c0:Ctx}{c:Ctx}(h:ff N M c0 w0 c w st a):c.base<=w.heap.size:=by
 rw[h.reach.cy.base];exact bL h.fw h.reach.fr.size
theorem Km{c:Ctx}{env:List (Nat×D)}(f:Nat):Rep c w (cj env (.func f)) (a.eval (.func f)):=by
 simp only[cj,Act.eval]
 cases h:bN f YB with
 |false=>trivial
 |true=>exact⟨[],.inl ⟨lE h,rfl⟩,trivial⟩
theorem Nh{c:Ctx}{env:List (Nat×D)}(h:∀t,Rep c w (look env t) (a.tmps.getD t undef))(x:Operand):Rep c w (cj env x) (a.eval x):=by
 cases x with
 |tmp t=>exact h t
 |const v=>
  simp only[cj,Act.eval]
  cases hv:Gq v with
  |none=>trivial
  |some d=>exact Nf hv c w
 |global g=>trivial
 |func f=>exact Km f
def r7(env:List (Nat×D))(dst:Option Tmp)(d:D):List (Nat×D):=match dst with|none=>env|some t=>(t,d)::env
theorem AT(env:List (Nat×D))(t:Nat)(d:D)(s:Nat):look ((t,d)::env) s=if t=s then d else look env s:=by
 simp only[look]
 cases hb:Nat.beq t s with
 |true=>rw[if_pos (bE hb)]
 |false=>rw[if_neg (λe=>by rw[e]at hb;simp at hb)]
theorem Zbi{c:Ctx}{env:List (Nat×D)}(hN:N<=a.tmps.size)(hd:∀t,dst=some t->t<N)(h:∀t,Rep c w (look env t) (a.tmps.getD t undef))(hv:Rep c w d v)(t:Nat):
 Rep c w (look (r7 env dst d) t) ((a.put dst v).tmps.getD t undef):=by
 cases dst with
 |none=>exact h t
 |some s=>
  have hs:=hd s rfl
  simp only[r7,Act.put,AT]
  by_cases e:s=t
  ·subst e
   rw[if_pos rfl]
   have bd:s<a.tmps.size:=bM hs hN
   simpa[aY,bd]using hv
  ·rw[if_neg e]
   have:=h t
   simpa[Array.getElem?_setIfInBounds_ne e]using this
def jr:List Operand->Nat
 |[]=>1
 |.tmp t::l=>t+1+jr l
 |_::l=>jr l
theorem Wm:∀{l:List Operand},0<jr l
 |[]=>by simp[jr]
 |x::l=>by cases x<;>simp only[jr]<;>have:=Wm (l:=l)<;>omega
theorem SI{t:Nat}:∀{l:List Operand},.tmp t∈l->t<jr l
 |x ::l,h=>by
  rcases List.mem_cons.1 h with e|e
  ·subst e;simp only[jr];omega
  ·have:=SI e
   cases x<;>simp only[jr]<;>omega
def Gu(B:Nat):List iB->List (Nat×D)
 |[]=>[]
 |x::l=>(B,x.d)::Gu (B+1) l
theorem Ni{env:List (Nat×D)}:∀{cs:List iB} {B t:Nat},look (Gu B cs++env) t=if h:B<=t/\t-B<cs.length then(cs[t-B]'h.2).d else look env t
 |[],B,t=>by simp[Gu]
 |x ::l,B,t=>by
  simp only[Gu,List.cons_append,AT,Ni (cs:=l) (B:=B+1)]
  by_cases e:B=t
  ·subst e;simp
  ·rw[if_neg e]
   by_cases h:B+1<=t/\t-(B+1)<l.length
   ·rw[dif_pos h,dif_pos (by simp;omega)]
    have:t-B=(t-(B+1))+1:=by omega
    simp only[this,List.getElem_cons_succ]
   ·rw[dif_neg h,dif_neg (by simp;omega)]
def Ez(args:Array Operand)(n:Nat):Array Operand:=(args.toList++(bO (jr args.toList) n).map Operand.tmp).toArray
def tD(a:Act)(B:Nat)(us:List Value):Act:={tmps:=((List.range B).map (λi=>a.tmps.getD i undef)++us).toArray,defers:=[]}
theorem Zj5{t:Nat}(h:t<B):(tD a B us).tmps.getD t undef=a.tmps.getD t undef:=by
 simp[tD,aY,h,List.getElem_append]
 omega
theorem Zin:(tD a B us).tmps.getD (B+i) undef=us.getD i undef:=by
 simp only[tD,Array.getD_eq_getD_getElem?,bH]
 rw[bJ (by simp)]
 simp[aV]
theorem oL.length{c:Ctx}{w:World}:∀{cs:List iB} {us:List Value},oL c w cs us->us.length=cs.length
 |[],[],_=>rfl
 |_::_,_::_,h=>by simp[oL.length h.2]
 |[],_::_,h=>h.elim
 |_::_,[],h=>h.elim
theorem oL.get{c:Ctx}{w:World}:∀{cs:List iB} {us:List Value},oL c w cs us->∀i (h:i<cs.length),SJ c w (cs[i]'h) (us.getD i undef)
 |[],[],_,i,h=>by simp at h
 |_::_,_::_,h,0,_=>by simpa using h.1
 |_::_,_::_,h,i+1,hi=>by simpa using oL.get h.2 i (by simpa using hi)
 |[],_::_,h,_,_=>h.elim
 |_::_,[],h,_,_=>h.elim
theorem Zcw{env:List (Nat×D)}:(Ez args cs.length).toList.map (cj (Gu (jr args.toList) cs++env))=args.toList.map (cj env)++cs.map iB.d:=by
 simp only[Ez,bP]
 congr 1
 ·refine bQ λx hx=>?_
  cases x with
  |tmp t=>simp only[cj,Ni];rw[dif_neg (by have:=SI hx;omega)]
  |_=>rfl
 ·refine bR (by simp) λi h1 h2=>?_
  have:i<cs.length:=by simpa using h2
  simp only[bS,bT,cj,Ni]
  rw[dif_pos (by omega)]
  congr 1
  simp
theorem Z2:(Ez args us.length).toList.map (tD a (jr args.toList) us).eval=args.toList.map a.eval++us:=by
 simp only[Ez,bP]
 congr 1
 ·refine bQ λx hx=>?_
  cases x with
  |tmp t=>exact Zj5 (SI hx)
  |_=>rfl
 ·refine bR (by simp) λi h1 h2=>?_
  have:i<us.length:=h2
  simp only[bS,bT,Act.eval,Nat.one_mul]
  rw[Zin]
  simp[aV,this]
theorem BL{c:Ctx}{env:List (Nat×D)}(hl:∀x∈args.toList,Rep c w (cj env x) (a.eval x))(hc:oL c w cs us):∀x∈(Ez args cs.length).toList,Rep c w (cj (Gu (jr args.toList) cs++env) x) ((tD a (jr args.toList) us).eval x):=by
 intro x hx
 simp only[Ez,List.mem_append,List.mem_map]at hx
 rcases hx with hx|⟨t,ht,rfl⟩
 ·have:=hl x hx
  cases x with
  |tmp t=>
   have bd:=SI hx
   simp only[cj,Ni,Act.eval]
   rw[dif_neg (by omega),Zj5 bd]
   exact this
  |_=>exact this
 ·rw[List.mem_range'_1]at ht
  obtain⟨i,hi,rfl⟩:∃i:Nat,i<cs.length/\t=jr args.toList+i:=⟨t-jr args.toList,Nat.sub_lt_left_of_lt_add ht.1 ht.2,(Nat.add_sub_cancel' ht.1).symm⟩
  have h2:=oL.get hc i hi
  have h3:look (Gu (jr args.toList) cs++env) (jr args.toList+i)=(cs[i]'hi).d:=by
   rw[Ni,dif_pos ⟨by omega,by omega⟩]
   congr 1
   simp
  simp only[cj,Act.eval]
  rw[h3,Zin]
  exact Rep.Ks (VRep.EA (Wn.1 h2))
theorem qay{f:FuncId}(he:∀args w,(callFunc f args).run P w=.ok (.enter f args) w){t:Tmp}{guard:Option (Nat×Bool)}
 (ht:a.eval (.tmp t)=.func (.func f) #[] us.toArray) {K:Act->World->Prop} {Q:Exit->Act->World->Prop}
 (h:(⟨some 0,.call ⟨.value (.func f),Ez args us.length,dj⟩,type,pos,after,guard⟩:Oper).nk P (tD a (jr args.toList) us) w (λa' w'=>K (a.put dst (a'.tmps.getD 0 undef)) w') (λ_ _ _=>False)):
 (⟨dst,.call ⟨.value (.tmp t),args,dj⟩,type,pos,after,guard⟩:Oper).nk P a w K Q:=by
 have hv:=Z2 (a:=a) (args:=args) (us:=us)
 have r1:(execOp (tD a (jr args.toList) us).eval (⟨some 0,.call ⟨.value (.func f),Ez args us.length,dj⟩,type,pos,after,guard⟩:Oper)).run P w=.ok (.enter f (args.toList.map a.eval++us).toArray) w:=by
  simp only[execOp,resolve,Act.eval,Deferred.ofValue,Sem.run_bind,Sem.run_pure,Result.andThen_ok,invoke,bU,Array.append_empty]
  rw[he,<-hv,<-bV,bW]
 have r2:(execOp a.eval (⟨dst,.call ⟨.value (.tmp t),args,dj⟩,type,pos,after,guard⟩:Oper)).run P w=.ok (.enter f (args.toList.map a.eval++us).toArray) w:=by
  simp only[execOp,resolve,ht,Deferred.ofValue,Sem.run_bind,Sem.run_pure,Result.andThen_ok,invoke,bU]
  rw[he]
  congr 2
  rw[<-List.append_toArray,<-bV,bW]
 have bd:0<(tD a (jr args.toList) us).tmps.size:=by have:=Wm (l:=args.toList);simp[tD];omega
 unfold Oper.nk at h⊢
 rw[r1]at h
 rw[r2]
 refine Calls.mono h λe w' ⟨v,he,hp⟩=>⟨v,he,?_⟩
 have:((tD a (jr args.toList) us).put (some 0) v).tmps.getD 0 undef=v:=by
  simp only[Act.put]
  simp[aY,bd]
 simp only[this]at hp
 exact hp
theorem yG{t:Tmp}{guard:Option (Nat×Bool)}{l:Nat}{rec:Loop}
 (ht:a.eval (.tmp t)=.func (.yield l) #[] #[]) (hl:w.heap[l]?=some (.loop rec)) {K:Act->World->Prop} {Q:Exit->Act->World->Prop} (hs:(args.toList.map a.eval).length=rec.params.size)
 (h:RoundIn Fence.wide 0 P l rec.fn ((rec.params.zip (args.toList.map a.eval).toArray).foldl (λtmps (t,a)=>tmps.setIfInBounds t a) rec.tmps) rec.assign rec.body w λe w'=>∃v,e=.returned v/\K (a.put dst v) w'):
 (⟨dst,.call ⟨.value (.tmp t),args,dj⟩,type,pos,after,guard⟩:Oper).nk P a w K Q:=by
 have r2:(execOp a.eval (⟨dst,.call ⟨.value (.tmp t),args,dj⟩,type,pos,after,guard⟩:Oper)).run P w=.ok (.round l rec.fn ((rec.params.zip (args.toList.map a.eval).toArray).foldl (λtmps (t,a)=>tmps.setIfInBounds t a) rec.tmps) rec.assign rec.body) w:=by
  simp only[execOp,resolve,ht,Deferred.ofValue,Sem.run_bind,Sem.run_pure,Result.andThen_ok,invoke,bU]
  have hy:=run_yield (P:=P) (args:=(args.toList.map a.eval).toArray) hl (by simpa using hs)
  rw[<-hy,<-bV,bW]
 unfold Oper.nk
 rw[r2]
 exact h
section
variable {P:Program} {G:List ba} {M:Nat} {dst:Option Tmp} {f:FuncId} {t:Tmp} {args:Array Operand} {dj:Array TypeId} {type:TypeId} {pos':String} {after:Array Edge} {guard:Option (Nat×Bool)} {env:List (Nat×D)} {cs:List iB} {R:Rows}
theorem Nj{x:ba}(dx:bm P x)(hf:x.f=f)(hy:f<YB)(ht:look env t=.gj f cs)
 (h:BM P ⟨some 0,.call ⟨.value (.func f),Ez args cs.length,dj⟩,type,pos',after,guard⟩ (cj (Gu (jr args.toList) cs++env)) R ks val R'):BM P ⟨dst,.call ⟨.value (.tmp t),args,dj⟩,type,pos',after,guard⟩ (cj env) R ks val R':=by
 intro c w a hm hb hR eh K Q hK
 have h1:=eh (.tmp t) (by simp[Op.operands,Call.operands])
 simp only[cj,ht]at h1
 obtain⟨us,⟨_,hv⟩|⟨gh,_⟩,hc⟩:=h1
 rotate_left
 ·exact absurd hy (Nat.not_lt.2 gh)
 have hl:us.length=cs.length:=hc.length
 refine qay (λaz w=>by rw[<-hf];exact dx.enters (by rw[hf];exact hy) az w) hv ?_
 rw[hl]
 refine h c w _ hm hb hR (λy hy=>?_) _ _ λv w' c' hn jZ hr=>?_
 ·have ft:∀x∈args.toList,Rep c w (cj env x) (a.eval x):=λy hy=>eh y (by simp[Op.operands,Call.operands];exact .inr (by simpa using hy))
  simp only[Op.operands,Call.operands]at hy
  rcases Array.mem_append.1 hy with hy|hy
  ·simp at hy;subst hy;exact Km _
  ·exact BL ft hc y (by simpa using hy)
 ·have bd:0<(tD a (jr args.toList) us).tmps.size:=by have:=Wm (l:=args.toList);simp[tD];omega
  have:((tD a (jr args.toList) us).put (some 0) v).tmps.getD 0 undef=v:=by
   simp only[Act.put]
   simp[aY,bd]
  show K (a.put dst (((tD a (jr args.toList) us).put (some 0) v).tmps.getD 0 undef)) w'
  rw[this]
  exact hK v w' c' hn jZ hr
theorem Zt4{K:D->Rows->Prop}(hG:jA P G)(lU:o6 G f=none)(ht:look env t=.gj f cs)(h:Kt G f (args.toList.map (cj env)++cs.map iB.d) R K):∃val R',K val R'/\BM P ⟨dst,.call ⟨.value (.tmp t),args,dj⟩,type,pos',after,guard⟩ (cj env) R [] val R':=by
 rw[<-Zcw]at h
 obtain⟨val,R',x,h1,h2,h3,_⟩:=Wo (dst:=some 0) (dj:=dj) (type:=type) (pos':=pos') (after:=after) (guard:=guard) hG lU h
 obtain⟨dx,hf⟩:=Gv hG h2
 have wu:x.gone=none:=by simpa[o6,h2]using lU
 exact⟨val,R',h1,Nj dx hf (by rw[<-hf];exact dx.real wu) ht h3.toK⟩
theorem qb{K:List Nat->D->Rows->Prop}(hG:jA P G)(r5:(bN f YB||Nat.beq args.size 1)=true)(lU:o6 G f=some k)(ht:look env t=.gj f cs)(h:Ig G M f k (args.toList.map (cj env)++cs.map iB.d) R K):∃ks val R',K ks val R'/\(∀j,da j ks=true->M<=j)/\BM P ⟨dst,.call ⟨.value (.tmp t),args,dj⟩,type,pos',after,guard⟩ (cj env) R ks val R':=by
 rw[<-Zcw]at h
 by_cases hy:f<YB
 ·obtain⟨ks,val,R',x,h1,h2,h3,h4,h5⟩:=Zok hG hy (dst:=some 0) (dj:=dj) (type:=type) (pos':=pos') (after:=after) (guard:=guard) lU h
  obtain⟨dx,hf⟩:=Gv hG h2
  exact⟨ks,val,R',h1,h4,Nj dx hf hy ht h5⟩
 ·obtain⟨ks,val,R',x,h1,h2,h3,h4,h5⟩:=Wp hG lU h
  refine⟨ks,val,R',h1,h4,λc w a hm hb hR eh K' Q pZ=>?_⟩
  have h1:=eh (.tmp t) (by simp[Op.operands,Call.operands])
  simp only[cj,ht]at h1
  obtain⟨us,⟨bd,_⟩|⟨gh,l,rec,hv,hI,hl,mX⟩,hc⟩:=h1
  ·exact absurd bd hy
  have ft:∀x∈args.toList,Rep c w (cj env x) (a.eval x):=λy hy=>eh y (by simp[Op.operands,Call.operands];exact .inr (by simpa using hy))
  have hlen:us.length=cs.length:=hc.length
  have iU:(args.toList.map a.eval).length=1:=by
   rcases Bool.or_eq_true_iff.1 r5 with e|e
   ·exact absurd (lE e) hy
   ·simpa using bE e
  have fp:(args.toList.map a.eval).length=rec.params.size:=by
   obtain⟨_,_,y,_,hp,_,_,_,h1,_⟩:=mX
   rw[hp,h1];exact iU
  exact yG hv hl fp ((h5 c w (tD a (jr args.toList) us).eval hm hb hR (λy hy=>BL ft hc y hy) (λv w'=>K' (a.put dst v) w') λv w' c'=>pZ v w' c').2 (Nat.le_of_not_lt hy) l rec (args.toList.map a.eval) us (by rw[<-hlen,Z2]) hI hl mX iU)
end
def pH(P:Program)(G:List ba)(M:Nat)(o:Oper)(ev:Operand->D)(R:Rows)(ks:List Nat)(val:D)(R':Rows):Prop:=
 if r8 G o.op=true then(∀k,da k ks=true->M<=k)/\BM P o ev R ks val R' else ks=[]/\pL P o ev R val R'
theorem pH.toK(h:pH P G M o ev R ks val R'):(∀k,da k ks=true->M<=k)/\BM P o ev R ks val R':=by
 unfold pH at h
 split at h
 ·exact h
 ·obtain⟨rfl,h⟩:=h
  exact⟨λk hk=>by simp[da]at hk,h.toW.toK⟩
theorem AV(hw:r8 G o.op=false)(h:pL P o ev R val R'):pH P G M o ev R [] val R':=by
 unfold pH;rw[hw];exact⟨rfl,h⟩
theorem BN(hw:r8 G o.op=true)(hk:∀k,da k ks=true->M<=k)(h:BM P o ev R ks val R'):pH P G M o ev R ks val R':=by
 unfold pH;rw[if_pos hw];exact⟨hk,h⟩
def nD(P:Program)(G:List ba)(M:Nat)(ops:Array Oper)(o:Oper)(env:List (Nat×D))(R:Rows)(ks:List Nat)(val:D)(R':Rows):Prop:=
 match o.guard with
 |none=>pH P G M o (cj env) R ks val R'
 |some (j,want)=>∃g,(ops[j]?).bind (·.dst)=some g/\((∃b,look env g=.bool b/\(if b=want then pH P G M o (cj env) R ks val R' else ks=[]/\val=.dw []/\R'=R))\/(look env g=.dw []/\ks=[]/\val=.dw []/\R'=R))
theorem oM{K:St->Prop}(h:st.put N dst d R K):(∀t,dst=some t->t<N)/\K ⟨r7 st.env dst d,R⟩:=by
 cases dst with
 |none=>exact⟨λt h=>(by cases h),h⟩
 |some t=>
  simp only[St.put,dd]at h
  refine⟨λs hs=>?_,h.2⟩
  cases hs
  exact lE h.1
theorem zb(d:D):d.kill []=d:=by
 cases d with
 |agg cs=>show D.agg (D.ji [] cs)=_;rw[Wq]
 |gj f cs=>exact Wr (.gj f cs)
 |_=>rfl
theorem Zkm:∀{ds:List D},D.pM [] ds=ds
 |[]=>rfl
 |d::l=>by simp[D.pM,zb,Zkm (ds:=l)]
theorem yb(d:D):d.jW []=d:=by
 cases d with
 |dw ds=>show D.dw (D.pM [] ds)=_;rw[Zkm]
 |agg cs=>exact zb (.agg cs)
 |gj f cs=>exact Wr (.gj f cs)
 |_=>rfl
theorem oK{env:List (Nat×D)}{t:Nat}:look (r6 [] env) t=look env t:=by rw[BO,yb]
theorem Zpf(hT:jg P T)(hG:jA P G){K:St->Prop}(h:lV T G N M o st K):
 ∃ks val R' iE,(∀t,look iE t=look (r6 ks st.env) t)/\(∀t,o.dst=some t->t<N)/\K ⟨r7 iE o.dst val,R'⟩/\pH P G M o (cj st.env) st.rows ks val R':=by
 have plain:(r8 G o.op=Gw o.op)->(gp T o.op (cj st.env) st.rows λd R=>st.put N o.dst d R K)->∃ks val R' iE,(∀t,look iE t=look (r6 ks st.env) t)/\(∀t,o.dst=some t->t<N)/\K ⟨r7 iE o.dst val,R'⟩/\pH P G M o (cj st.env) st.rows ks val R':=by
  intro hw h
  obtain⟨val,R',hK,hO⟩:=Nk hT o _ _ _ h
  obtain⟨h1,h2⟩:=oM hK
  refine⟨[],_,_,st.env,λt=>oK.symm,h1,h2,?_⟩
  split at hO
  ·rename_i hs
   exact BN (hw.trans hs) (λk hk=>by simp[da]at hk) hO.toK
  ·rename_i hs
   exact AV (by rw[hw];simpa using hs) hO
 unfold lV at h
 split at h
 ·rename_i cc x y ho
  split at h
  ·rename_i b hb
   have hw:r8 G o.op=false:=by rw[ho];rfl
   have go:∀z,z∈o.op.operands->(∀c w (a:Act),Rep c w (cj st.env cc) (a.eval cc)->(execOp a.eval o).run P w=.ok (.value (a.eval z)) w)->(cj st.env z).force (λd=>st.put N o.dst d st.rows K)->
    ∃ks val R' iE,(∀t,look iE t=look (r6 ks st.env) t)/\(∀t,o.dst=some t->t<N)/\K ⟨r7 iE o.dst val,R'⟩/\pH P G M o (cj st.env) st.rows ks val R':=by
    intro z hz ij h
    rw[D.c6]at h
    obtain⟨h1,h2⟩:=oM h
    exact⟨[],_,_,st.env,λt=>oK.symm,h1,h2,AV hw (mL λc w a hm hA eh=>⟨_,ij c w a (eh cc (by rw[ho];simp[Op.operands])),eh z hz⟩)⟩
   cases b with
   |true=>
    refine go x (by rw[ho];simp[Op.operands]) (λc w a hc=>?_) h
    rw[hb]at hc
    simp only[execOp,ho,Rep.bool.1 hc,asBool,Sem.run_bind,Sem.run_pure,Result.andThen_ok,if_true]
   |false=>
    refine go y (by rw[ho];simp[Op.operands]) (λc w a hc=>?_) h
    rw[hb]at hc
    simp only[execOp,ho,Rep.bool.1 hc,asBool,Sem.run_bind,Sem.run_pure,Result.andThen_ok,aA,if_false]
  ·exact h.elim
 ·rename_i f args dj ho
  obtain⟨dst,op,type,pos,after,guard⟩:=o
  simp only at ho
  subst ho
  split at h
  ·rename_i lU
   split at h
   rotate_left
   ·rename_i EB
    obtain⟨ks,val,R',x,hK,hx,hM,hO⟩:=qS (dst:=dst) (type:=type) (pos':=pos) (after:=after) (guard:=guard) (dj:=dj) hG lU h
    rw[Ih]at hK
    obtain⟨h1,h2⟩:=oM hK
    refine⟨ks,_,_,_,λt=>rfl,h1,h2,BN ?_ hM hO⟩
    have EB:x.o7=true:=by simpa[BP,hx]using EB
    cases pI:x.refs with
    |nil=>simp only[r8,hx,pI,EB]
    |cons b bs=>simp only[r8,hx,pI]
   rename_i EB
   have Ii:∀x,oO G f=some x->x.o7=false:=λx hx=>by simpa[BP,hx]using EB
   obtain⟨val,R',x,hK,hx,hO,hN⟩:=Wo (dst:=dst) (type:=type) (pos':=pos) (after:=after) (guard:=guard) (dj:=dj) hG lU h
   obtain⟨h1,h2⟩:=oM hK
   refine⟨[],_,_,st.env,λt=>oK.symm,h1,h2,?_⟩
   cases hr:x.refs with
   |nil=>exact AV (by simp only[r8,hx,hr,Ii x hx]) (hN hr)
   |cons b bs=>exact BN (by simp only[r8,hx,hr]) (λk hk=>by simp[da]at hk) hO.toK
  ·rename_i k lU
   obtain⟨hy,h⟩:=dd.1 h
   obtain⟨ks,val,R',x,hK,hx,hr,hM,hO⟩:=Zok hG (lE hy) (dst:=dst) (type:=type) (pos':=pos) (after:=after) (guard:=guard) (dj:=dj) lU h
   rw[Ih]at hK
   obtain⟨h1,h2⟩:=oM hK
   refine⟨ks,_,_,_,λt=>rfl,h1,h2,BN ?_ hM hO⟩
   cases pI:x.refs with
   |nil=>exact(hr pI).elim
   |cons b bs=>simp only[r8,hx,pI]
 ·rename_i t args dj ho
  obtain⟨dst,op,type,pos,after,guard⟩:=o
  simp only at ho
  subst ho
  split at h
  ·rename_i f cs ht
   split at h
   ·rename_i lU
    split at h
    ·obtain⟨val,R',hK,hO⟩:=Zt4 (dst:=dst) (type:=type) (pos':=pos) (after:=after) (guard:=guard) (dj:=dj) hG lU ht h
     obtain⟨h1,h2⟩:=oM hK
     exact⟨[],_,_,st.env,λt=>oK.symm,h1,h2,BN rfl (λk hk=>by simp[da]at hk) hO⟩
    ·exact h.elim
   ·rename_i k lU
    obtain⟨r5,h⟩:=dd.1 h
    obtain⟨ks,val,R',hK,hM,hO⟩:=qb (dst:=dst) (type:=type) (pos':=pos) (after:=after) (guard:=guard) (dj:=dj) hG r5 lU ht h
    rw[Ih]at hK
    obtain⟨h1,h2⟩:=oM hK
    exact⟨ks,_,_,_,λt=>rfl,h1,h2,BN rfl hM hO⟩
  ·exact h.elim
 ·rename_i args dj ho
  obtain⟨dst,op,type,pos,after,guard⟩:=o
  simp only at ho
  subst ho
  split at h
  ·rename_i x y t tx hx ht
   have ft:args= #[x,y]:=by rw[<-bW (xs:=args),hx]
   have ui:dj= #[t,tx]:=by rw[<-bW (xs:=dj),ht]
   subst ft;subst ui
   obtain⟨ks,R',hK,hM,hr⟩:=Zq5 (ty:=type) hT h
   rw[Ih]at hK
   obtain⟨h1,h2⟩:=oM hK
   refine⟨ks,_,_,_,λt=>rfl,h1,h2,BN rfl hM λc w a hm hb hR eh K' Q pZ=>?_⟩
   obtain⟨v',w',c',ij,hn,jZ,hv⟩:=hr c w _ _ hm hb hR (eh x (by simp[Op.operands,Call.operands])) (eh y (by simp[Op.operands,Call.operands]))
   refine Gx ?_ (pZ v' w' c' hn jZ hv)
   simp only[execOp,resolve,Sem.run_bind,Sem.run_pure,Result.andThen_ok,invoke,builtin]
   have:(#[x,y]:Array Operand).map a.eval= #[a.eval x,a.eval y]:=by simp
   rw[this,ij];rfl
  ·exact h.elim
 ·rename_i args dj ho
  obtain⟨dst,op,type,pos,after,guard⟩:=o
  simp only at ho
  subst ho
  split at h
  ·rename_i x y t tx hx ht
   have ft:args= #[x,y]:=by rw[<-bW (xs:=args),hx]
   have ui:dj= #[t,tx]:=by rw[<-bW (xs:=dj),ht]
   subst ft;subst ui
   obtain⟨val,R',hK,hr⟩:=za (ty:=type) hT h
   obtain⟨h1,h2⟩:=oM hK
   refine⟨[],_,_,st.env,λt=>oK.symm,h1,h2,BN rfl (λk hk=>by simp[da]at hk) (EC.toK λc w a hm hb hR eh K' Q pZ=>?_)⟩
   obtain⟨v',w',c',ij,hn,jZ,hv⟩:=hr c w _ _ hm hR (eh x (by simp[Op.operands,Call.operands])) (eh y (by simp[Op.operands,Call.operands]))
   refine Gx ?_ (pZ v' w' c' hn jZ hv)
   simp only[execOp,resolve,Sem.run_bind,Sem.run_pure,Result.andThen_ok,invoke,builtin]
   have:(#[x,y]:Array Operand).map a.eval= #[a.eval x,a.eval y]:=by simp
   rw[this,ij];rfl
  ·exact h.elim
 ·rename_i args dj ho
  split at h
  ·rename_i x y hx
   obtain⟨val,hK,hr⟩:=Zqd h
   obtain⟨h1,h2⟩:=oM hK
   refine⟨[],_,_,st.env,λt=>oK.symm,h1,h2,AV (by rw[ho];rfl) (mL λc w a hm hA eh=>?_)⟩
   have ft:args= #[x,y]:=by rw[<-bW (xs:=args),hx]
   subst ft
   obtain⟨u,hu,hv⟩:=hr P c w _ _ (eh x (by rw[ho];simp[Op.operands,Call.operands])) (eh y (by rw[ho];simp[Op.operands,Call.operands]))
   refine⟨u,?_,hv⟩
   simp only[execOp,ho,resolve,Sem.run_bind,Sem.run_pure,Result.andThen_ok,invoke,builtin]
   have:(#[x,y]:Array Operand).map a.eval= #[a.eval x,a.eval y]:=by simp
   rw[this]
   have hu:=hu.1 rfl dj o.type
   rw[hu];rfl
  ·exact h.elim
 ·rename_i args dj ho
  split at h
  ·rename_i x y hx
   obtain⟨val,hK,hr⟩:=Zqd h
   obtain⟨h1,h2⟩:=oM hK
   refine⟨[],_,_,st.env,λt=>oK.symm,h1,h2,AV (by rw[ho];rfl) (mL λc w a hm hA eh=>?_)⟩
   have ft:args= #[x,y]:=by rw[<-bW (xs:=args),hx]
   subst ft
   obtain⟨u,hu,hv⟩:=hr P c w _ _ (eh x (by rw[ho];simp[Op.operands,Call.operands])) (eh y (by rw[ho];simp[Op.operands,Call.operands]))
   refine⟨u,?_,hv⟩
   simp only[execOp,ho,resolve,Sem.run_bind,Sem.run_pure,Result.andThen_ok,invoke,builtin]
   have:(#[x,y]:Array Operand).map a.eval= #[a.eval x,a.eval y]:=by simp
   rw[this]
   have hu:=hu.2 rfl dj o.type
   rw[hu];rfl
  ·exact h.elim
 ·rename_i s d x ho
  split at h
  ·rename_i e _ _ _ _ _ _ hs
   obtain⟨val,hK,hr⟩:=zG hT hs h
   obtain⟨h1,h2⟩:=oM hK
   refine⟨[],_,_,st.env,λt=>oK.symm,h1,h2,AV (by rw[ho];rfl) (mL λc w a hm hA eh=>?_)⟩
   obtain⟨u,hu,hv⟩:=hr c w _ hm hA (eh x (by rw[ho];simp[Op.operands]))
   refine⟨u,?_,hv⟩
   simp only[execOp,ho]
   rw[Sem.run_bind,hu];rfl
  ·rw[<-ho]at h
   exact plain (by rw[ho];rfl) h
 ·rename_i op t x y ty ho
  split at h
  ·rename_i s es fr hx hy
   obtain⟨hK,hr⟩:=xG hT h
   obtain⟨h1,h2⟩:=oM hK
   refine⟨[],_,_,st.env,λt=>oK.symm,h1,h2,AV (by rw[ho];rfl) (mL λc w a hm hA eh=>?_)⟩
   have q1:=eh x (by rw[ho];simp[Op.operands])
   have q2:=eh y (by rw[ho];simp[Op.operands])
   rw[hx]at q1;rw[hy]at q2
   obtain⟨u,hu,hv⟩:=hr s fr c w _ _ q1 q2
   refine⟨u,?_,hv⟩
   simp only[execOp,ho]
   rw[Sem.run_bind,hu x y];rfl
  ·rename_i r hx hy
   split at h
   ·rename_i bx jS j5 es hR
    obtain⟨hK,hr⟩:=ya hT hR h
    obtain⟨h1,h2⟩:=oM hK
    refine⟨[],_,_,st.env,λt=>oK.symm,h1,h2,AV (by rw[ho];rfl) (mL λc w a hm hA eh=>?_)⟩
    have q1:=eh x (by rw[ho];simp[Op.operands])
    have q2:=eh y (by rw[ho];simp[Op.operands])
    rw[hx]at q1;rw[hy]at q2
    obtain⟨u,hu,hv⟩:=hr c w _ _ hm hA q1 q2
    refine⟨u,?_,hv⟩
    simp only[execOp,ho]
    rw[Sem.run_bind,hu x y];rfl
   ·exact h.elim
  ·rw[<-ho]at h
   exact plain (by rw[ho];rfl) h
 ·rename_i op n1 n2 n9 n3 n4 n5 n6 n7 n8
  refine plain ?_ h
  unfold r8
  split
  ·rename_i rJ;rw[rJ];rfl
  ·rename_i rJ;exact(n2 _ _ _ rJ).elim
  ·rename_i rJ;exact(n9 _ _ _ rJ).elim
  ·rename_i rJ;exact(n3 _ _ rJ).elim
  ·rename_i rJ;exact(n4 _ _ rJ).elim
  ·rename_i m1 m2 m5 m3 m4
   cases rJ:o.op<;>first|rfl|exact(m1 _ _ _ rJ).elim
theorem SK(h:look st.env g=.bool b)(t:Nat):look (st.jT (.tmp g) b).env t=look st.env t:=by
 simp only[St.jT,AT]
 split
 ·rename_i e;subst e;exact h.symm
 ·rfl
theorem Zt1{env mo:List (Nat×D)}(h:∀t,look mo t=look env t):cj mo=cj env:=by
 funext x;cases x<;>first|exact h _|rfl
theorem V6(hT:jg P T)(hG:jA P G){l:List Oper}{K:St->Prop}(h:mb T G N M ops (o::l) st K):
 ∃ks val R' iE,(∀t,look iE t=look (r6 ks st.env) t)/\(∀t,o.dst=some t->t<N)/\nD P G M ops o st.env st.rows ks val R'/\mb T G N M ops l ⟨r7 iE o.dst val,R'⟩ K:=by
 simp only[mb]at h
 split at h
 ·rename_i hg
  obtain⟨ks,val,R',iE,h0,h1,h2,h3⟩:=Zpf hT hG h
  exact⟨ks,val,R',iE,h0,h1,by unfold nD;rw[hg];exact h3,h2⟩
 ·rename_i j want hg
  split at h
  ·rename_i g hd
   split at h
   ·rename_i b hb
    have yes:∀b',b'=b->lV T G N M o (st.jT (.tmp g) b') (λst=>mb T G N M ops l st K)->b=want->∃ks val R' iE,(∀t,look iE t=look (r6 ks st.env) t)/\(∀t,o.dst=some t->t<N)/\nD P G M ops o st.env st.rows ks val R'/\mb T G N M ops l ⟨r7 iE o.dst val,R'⟩ K:=by
     intro b' e hh hw
     subst e
     obtain⟨ks,val,R',iE,h0,h1,h2,h3⟩:=Zpf hT hG hh
     rw[Zt1 (SK hb)]at h3
     refine⟨ks,val,R',iE,λt=>by rw[h0,BO,BO,SK hb],h1,?_,h2⟩
     unfold nD;rw[hg]
     exact⟨g,hd,.inl ⟨_,hb,by rw[if_pos hw];exact h3⟩⟩
    have no:∀b',b'=b->(st.jT (.tmp g) b').put N o.dst (.dw []) st.rows (λst=>mb T G N M ops l st K)->b≠want->∃ks val R' iE,(∀t,look iE t=look (r6 ks st.env) t)/\(∀t,o.dst=some t->t<N)/\nD P G M ops o st.env st.rows ks val R'/\mb T G N M ops l ⟨r7 iE o.dst val,R'⟩ K:=by
     intro b' e hh hw
     subst e
     obtain⟨h1,h2⟩:=oM hh
     refine⟨[],_,_,_,λt=>by rw[oK,SK hb],h1,?_,h2⟩
     unfold nD;rw[hg]
     exact⟨g,hd,.inl ⟨_,hb,by rw[if_neg hw];exact⟨rfl,rfl,rfl⟩⟩⟩
    cases b<;>cases want<;>simp only[Ai]at h
    ·exact yes _ rfl h rfl
    ·exact no _ rfl h (by simp)
    ·exact no _ rfl h (by simp)
    ·exact yes _ rfl h rfl
   ·rename_i hb
    obtain⟨h1,h2⟩:=oM h
    refine⟨[],_,_,st.env,λt=>oK.symm,h1,?_,h2⟩
    unfold nD;rw[hg]
    exact⟨g,hd,.inr ⟨hb,rfl,rfl,rfl⟩⟩
   ·exact h.elim
  ·exact h.elim
theorem SF{c:Ctx}(hg:o.guard=some (j,want))(hd:(ops[j]?).bind (·.dst)=some g)(h:Rep c w (.dw []) (a.tmps.getD g undef)):
 Region.wanted o (yielded ops a.tmps)=false:=by
 obtain⟨vs,hv,BQ⟩:=h
 have hy:yielded ops a.tmps j=none:=by
  simp only[yielded,hd,aW]
  cases hx:a.tmps[g]? with
  |none=>rfl
  |some v=>
   have:a.tmps.getD g undef=v:=by simp[hx]
   rw[this]at hv
   rw[hv]
 unfold Region.wanted
 rw[hg]
 simp only[hy]
 rfl
theorem SE(c:Ctx)(w:World):Rep c w (.dw []) undef:=⟨[],rfl,trivial⟩
theorem SG{c:Ctx}(hg:o.guard=some (j,want))(hd:(ops[j]?).bind (·.dst)=some g)(h:Rep c w (.bool b) (a.tmps.getD g undef)):
 Region.wanted o (yielded ops a.tmps)=decide (b=want):=by
 have hv:=Rep.bool.1 h
 have ht:a.tmps[g]?=some (.bool b):=by
  cases hx:a.tmps[g]? with
  |none=>simp[hx,undef]at hv
  |some v=>simp[hx]at hv;rw[hv]
 unfold Region.wanted
 simp only[hg,yielded,hd,aW,ht]
 cases b<;>cases want<;>rfl
def wpOp(P:Program)(ops:Array Oper)(Q:Exit->Act->World->Prop)(i:Nat)(K:Act->World->Prop)(a:Act)(w:World):Prop:=
 match ops[i]? with
 |none=>K a w
 |some o=>if Region.wanted o (yielded ops a.tmps)then o.nk P a w K Q else K (a.put o.dst undef) w
def Ku(P:Program)(ops:Array Oper)(Q:Exit->Act->World->Prop):List Nat->Act->World->Prop
 |[],a,w=>Q .normal a w
 |i::rest,a,w=>wpOp P ops Q i (Ku P ops Q rest) a w
theorem Zd6(i:Nat)(rest:List Nat)(a:Act)(w:World):Ku P ops Q (i::rest) a w=wpOp P ops Q i (Ku P ops Q rest) a w:=rfl
def Ia(P:Program)(md:Region.Mode)(ops:Array Oper)(Q:Exit->Act->World->Prop):Nat->Array Bool->Act->World->Prop
 |0,ar,a,w=>Region.ready md ops ar=[]/\Q .normal a w
 |fuel+1,ar,a,w=>
  (Region.ready md ops ar=[]->Q .normal a w)/\
  ∀i∈Region.ready md ops ar,wpOp P ops Q i (Ia P md ops Q fuel (ar.setIfInBounds i true)) a w
abbrev AW(ro:Option Nat):Fence:={Fence.wide with round:=ro}
theorem xX{P:Program}{ro:Option Nat}{o:Oper}{a:Act}{w:World}{K:Act->World->Prop}{Q Q':Exit->Act->World->Prop}(h:o.nk P a w K Q):o.wpIn (AW ro) 0 P a w K Q':=by
 refine⟨λ_ _=>trivial,?_⟩
 have hd:∀c,o.op≠.defer c:=by
  intro c hc
  unfold Oper.nk at h
  simp only[execOp,hc,Sem.run_bind]at h
  revert h
  cases(resolve a.eval c o.type).run P w with
  |halt _ _=>exactλh=>h
  |ok d w'=>exactλh=>h
 rw[Oper.semAt_eq _ _ _ hd]
 unfold Oper.nk at h
 revert h
 generalize(execOp a.eval o).run P w=r
 intro h
 cases r with
 |halt _ _=>exact h.elim
 |ok n w'=>
  cases n with
  |value v=>exact h
  |skip=>exact h
  |enter f args=>
   refine⟨λe=>(by cases e),?_⟩
   refine CallsIn.mono (F:=Fence.wide) (callsIn_wide.2 h) λe w' ⟨v,he,hk⟩=>?_
   subst he;exact hk
  |round l f tmps assign body=>
   refine⟨λe=>(by cases e),?_⟩
   refine RoundIn.mono (F:=Fence.wide) h λe w' ⟨v,he,hk⟩=>?_
   subst he;exact hk
  |_=>exact h.elim
theorem SL{P:Program}{ro:Option Nat}{ops:Array Oper}{Q:Exit->Act->World->Prop}:∀{l:List Nat} {a:Act} {w:World},Ku P ops Q l a w->wpOpsIn (AW ro) 0 P ops Q l a w
 |[],_,_,h=>h
 |i ::l,a,w,h=>by
  rw[Zd6]at h
  unfold wpOp at h
  unfold wpOpsIn
  split
  ·rename_i ho;simp only[ho]at h;exact SL h
  ·rename_i o ho
   simp only[ho]at h
   split
   ·rename_i hw;rw[if_pos hw]at h;exact xX (Q:=Q) (Ws (Q':=Q) (λa w h=>SL h) h)
   ·rename_i hw;rw[if_neg hw]at h;exact⟨λ_ _=>trivial,SL h⟩
theorem SM{P:Program}{ro:Option Nat}{md:Region.Mode}{ops:Array Oper}{Q:Exit->Act->World->Prop}:∀{n:Nat} {ar:Array Bool} {a:Act} {w:World},Ia P md ops Q n ar a w->wpAnyIn (AW ro) 0 P md ops Q n ar a w
 |0,_,_,_,h=>h
 |n +1,ar,a,w,h=>by
  refine⟨h.1,λi hi=>?_⟩
  have h:=h.2 i hi
  unfold wpOp at h
  unfold wpOpIn
  split
  ·rename_i ho;simp only[ho]at h;exact SM h
  ·rename_i o ho
   simp only[ho]at h
   split
   ·rename_i hw;rw[if_pos hw]at h;exact xX (Q:=Q) (Ws (Q':=Q) (λa w h=>SM h) h)
   ·rename_i hw;rw[if_neg hw]at h;exact⟨λ_ _=>trivial,SM h⟩
theorem Zgz(h:Ku P ops Q (List.range ops.size) a w):(Code.region id ops false).wpIn (AW ro) 0 P Q a w:=wpIn_region (SL h)
theorem Qw9(hm:P.follows .mixedOrders=true)
 (h:Ia P .any ops Q ops.size (Array.replicate ops.size false) a {w with drawn:=w.drawn+1}):(Code.region id ops true).wpIn (AW ro) 0 P Q a w:=wpIn_region_any hm (SM h)
theorem zX{c0:Ctx}{c:Ctx}{iE:List (Nat×D)}(hi:ops[i]?=some o)
 (hs:ff N M c0 w0 c w st a) (h1:∀t,look iE t=look (r6 ks st.env) t) (hd:∀t,o.dst=some t->t<N) (hG:nD P G M ops o st.env st.rows ks val R') {K:Act->World->Prop} {Q:Exit->Act->World->Prop}
 (hK:∀a' w' c',ff N M c0 w0 c' w' ⟨r7 iE o.dst val,R'⟩ a'->K a' w'):wpOp P ops Q i K a w:=by
 have fin:(∀k,da k ks=true->M<=k)->∀(v:Value) (w':World) (c':Ctx),jK ks c w c' w'->(∀r,c'.R r=R'.getD r none)->Rep c' w' val v->K (a.put o.dst v) w':=λhM v w' c' hn hR hv=>by
  refine hK _ _ c' ⟨hn.mem,hR,?_,?_,?_,hs.fw,hs.gr,hs.reach.step hM hs.gr hn⟩
  ·exact Zbi hs.size hd (λt=>by rw[h1,BO];exact Ac hn.cy (Wt (hs.env t))) hv
  ·cases ho:o.dst<;>simp[Act.put]<;>exact hs.size
  ·exact mf.put (hs.defers.step hs.mem hn.fr)
 have run:pH P G M o (cj st.env) st.rows ks val R'->o.nk P a w K Q:=λhX=>hX.toK.2 c w a hs.mem hs.base hs.rows (λx _=>Nh hs.env x) K Q (fin hX.toK.1)
 have skip:ks=[]->val=.dw []->R'=st.rows->K (a.put o.dst undef) w:=λe0 e1 e2=>by
  refine hK _ _ c ⟨hs.mem,by rw[e2];exact hs.rows,?_,?_,?_,hs.fw,hs.gr,hs.reach⟩
  ·exact Zbi hs.size hd (λt=>by rw[h1,e0,oK];exact hs.env t) (by rw[e1];exact SE _ _)
  ·cases ho:o.dst<;>simp[Act.put]<;>exact hs.size
  ·exact mf.put hs.defers
 unfold wpOp
 simp only[hi]
 unfold nD at hG
 cases hg:o.guard with
 |none=>
  simp only[hg]at hG
  have hw:Region.wanted o (yielded ops a.tmps)=true:=by simp[Region.wanted,hg]
  rw[if_pos hw]
  exact run hG
 |some jw=>
  obtain⟨j,want⟩:=jw
  simp only[hg]at hG
  obtain⟨g,h2,⟨b,h3,h4⟩|⟨h3,e0,e1,e2⟩⟩:=hG
  rotate_left
  ·have hr:=hs.env g
   rw[h3]at hr
   rw[if_neg (by rw[SF (o:=o) hg h2 hr];simp)]
   exact skip e0 e1 e2
  have hr:=hs.env g
  rw[h3]at hr
  have hw:=SG (o:=o) hg h2 hr
  by_cases e:b=want
  ·rw[if_pos e]at h4
   rw[if_pos (by rw[hw];simpa using e)]
   exact run h4
  ·rw[if_neg e]at h4
   rw[if_neg (by rw[hw];simpa using e)]
   exact skip h4.1 h4.2.1 h4.2.2
theorem yX{P:Program}{T:iu}(hT:jg P T){G:List ba}(hG:jA P G){N M:Nat}{ops:Array Oper}{c0:Ctx}{w0:World}{K:St->Prop}{Q:Exit->Act->World->Prop}(hQ:∀st c w a,K st->ff N M c0 w0 c w st a->Q .normal a w):
 ∀(l:List Oper) (k:Nat) (st:St) (c:Ctx) (w:World) (a:Act),ops.toList.drop k=l->mb T G N M ops l st K->ff N M c0 w0 c w st a->Ku P ops Q (bO k l.length) a w
 |[],k,st,c,w,a,_,h,hs=>hQ st c w a h hs
 |o ::l,k,st,c,w,a,hk,h,hs=>by
  have bd:k<ops.toList.length:=by
   by_cases bd:k<ops.toList.length
   ·exact bd
   ·rw[List.drop_eq_nil_of_le (by omega)]at hk;cases hk
  rw[List.drop_eq_getElem_cons bd]at hk
  have ho:ops[k]?=some o:=by
   have:=(List.cons.inj hk).1
   rw[<-this]
   simp at bd
   simp[bd]
  obtain⟨ks,val,R',iE,h1,h2,h3,h4⟩:=V6 hT hG h
  simp only[List.length_cons,List.range'_succ]
  rw[Zd6]
  exact zX ho hs h1 h2 h3 λa' w' c' iS=>yX hT hG hQ l (k+1) _ c' w' a' (List.cons.inj hk).2 h4 iS
def mV:Exit->Option Ex
 |.normal=>some .normal
 |.exit i=>some (.exit i)
 |.ret=>some .ret
 |_=>none
def tV(ro:Option Nat)(P:Program)(N M:Nat)(code:Code)(st:St)(Q:Ex->St->Prop):Prop:=
 ∀ (c0:Ctx) (w0:World) (c:Ctx) (w:World) (a:Act),ff N M c0 w0 c w st a->
  code.wpIn (AW ro) 0 P (λe a' w'=>∃ex jo c',mV e=some ex/\Q ex jo/\ff N M c0 w0 c' w' jo a') a w
abbrev Tr:=tV none
def Ctx.o7(c:Ctx)(R:Rows)(ks:List Nat):Ctx:=
 {c with R:=λr=>if da r ks=true then none else(c.R r).map (Row.mq R ks),I:=λb=>c.I b\/∃r row,da r ks=true/\c.R r=some row/\¬c.V r/\c.ρ r=b}
section
variable {c:Ctx} {w:World} {R:Rows} {ks:List Nat}
theorem Zjh(R:Rows)(ks:List Nat)(row:Row):(row.mq R ks).box=row.box/\(row.mq R ks).ty=row.ty/\(row.mq R ks).sz=row.sz/\(row.mq R ks).es.l.length=row.es.l.length:=by
 unfold Row.mq;split<;>exact⟨rfl,rfl,rfl,rfl⟩
theorem Z76:∀{e:List D},(D.ss R ks e).length=e.length
 |[]=>rfl
 |d::l=>by simp[D.ss,Z76 (e:=l)]
theorem Zhx:ja (c.kill ks) w (c.o7 R ks) w:=by
 refine⟨rfl,aX _,λb h=>⟨.inl h,rfl⟩,λr x hx=>?_⟩
 obtain⟨h1,row,h2,rfl⟩:=nj hx
 obtain⟨s1,s2,s3,s4⟩:=Zjh R ks row
 obtain⟨k1,k2,k3,k4⟩:=wq ks row
 refine⟨row.mq R ks,?_,s1.trans k1.symm,s2.trans k2.symm,s3.trans k3.symm,s4.trans k4.symm,rfl,Iff.rfl,λ_ arr h=>⟨arr,h,rfl⟩⟩
 show(if da r ks=true then none else(c.R r).map (Row.mq R ks))=_
 rw[h1,h2];rfl
theorem Z1g:∀{ds:List D} {arr:Array Value} {off:Nat},ds.all D.plain=true->kF c w ds arr off->oP c.I w ds arr off
 |[],_,_,_,_=>DJ.2 trivial
 |d::ds,arr,off,hp,⟨⟨v,hv,h1⟩,h2⟩=>by
  rw[List.all_cons,aE]at hp
  exact DK.2 ⟨⟨v,hv,dc.plain hp.1 h1⟩,Z1g hp.2 h2⟩
variable (hm:Mem c w) (hA:∀r,c.R r=R.getD r none)
include hm hA
theorem Wu(h:dc c w d v):dc (c.o7 R ks) w (d.BR R ks) v:=by
 have Ij:∀{d:D},dc c w d v->dc (c.o7 R ks) w (d.ez ks) v:=λh=>SN Zhx (SO h)
 cases d with
 |all r=>
  simp only[D.BR]
  cases hb:da r ks with
  |false=>
   have:=Ij h
   simpa only[D.ez,hb]using this
  |true=>
   obtain⟨row,g1,g2,hv⟩:=h
   have hr:R.getD r none=some row:=by rw[<-hA r];exact g1
   obtain⟨box,ty,sz,es⟩:=row
   simp only at g2
   subst g2
   simp only[hr]
   rcases hv with⟨hV,a,hv,_⟩|⟨hV,cap,arr,hv,g3,g4,g5,g6⟩
   ·have he:=(hm.nA g1 hV).2.1
    simp only at he
    exact⟨a,0,by rw[he];exact hv,by rw[he];exact aX _,.inl he⟩
   ·obtain⟨iG,jC,hs,hx⟩:=hm.real g1 hV
    simp only at g5 jC hx
    rw[g5]at jC;cases jC
    simp only[aA,if_false]at hx
    exact⟨_,cap,hv,g3,.inr ⟨_,0,arr,_,_,rfl,.inr ⟨r,_,hb,g1,hV,rfl⟩,by simp,g5,nC (λb hb=>⟨.inl hb,rfl⟩) _ _ _ _ hx⟩⟩
 |ptr r i off=>
  simp only[D.BR]
  cases hb:da r ks with
  |false=>
   have:=Ij h
   simpa only[D.ez,hb]using this
  |true=>
   obtain⟨row,g1,g2,g3,hv⟩:=h
   have hr:R.getD r none=some row:=by rw[<-hA r];exact g1
   simp only
   split
   ·rename_i ty sz e he
    rw[he]at hr;cases hr
    split
    ·rename_i hp
     obtain⟨arr,ha,hs,hx⟩:=hm.real g1 g2
     simp only[if_true]at hx
     obtain⟨e',k1,k2,k3,k4⟩:=hx
     have k1:[e]=[e']:=by injection k1
     have k1:e=e':=(List.cons.inj k1).1
     subst k1
     refine⟨c.ρ r,0,arr,ty,(0,0),?_,.inr ⟨r,_,hb,g1,g2,rfl⟩,g3,ha,pN.2 ⟨k2,Znc (λb hb=>⟨.inl hb,rfl⟩) _ _ _ (Z1g hp k4),ra.2 trivial⟩⟩
     rw[hv];simp
    ·rw[hv];rfl
   ·rw[hv];rfl
 |_=>exact Ij h
theorem Zpt:∀{ds:List D} {vs:List Value},jk c w ds vs->jk (c.o7 R ks) w (D.ss R ks ds) vs
 |[],[],_=>trivial
 |_::_,_::_,h=>⟨Wu hm hA h.1,Zpt h.2⟩
 |[],_::_,h=>h.elim
 |_::_,[],h=>h.elim
theorem Zpg(h:VRep c w d v):VRep (c.o7 R ks) w (d.Ik R ks) v:=by
 cases d with
 |agg cs=>obtain⟨vs,hv,hr⟩:=h;exact⟨vs,hv,Zpt hm hA hr⟩
 |_=>
  have:=Wu (ks:=ks) hm hA (VRep.toC (λcs e=>by cases e) h)
  exact VRep.EA this
theorem Zp0:∀{ds:List D} {vs:List Value},kd c w ds vs->kd (c.o7 R ks) w (D.Il R ks ds) vs
 |[],[],_=>trivial
 |_::_,_::_,h=>⟨Zpg hm hA h.1,Zp0 h.2⟩
 |[],_::_,h=>h.elim
 |_::_,[],h=>h.elim
theorem vG(h:Rep c w d v):Rep (c.o7 R ks) w (d.BS R ks) v:=by
 cases d with
 |dw ds=>obtain⟨vs,hv,hr⟩:=h;exact⟨vs,hv,Zp0 hm hA hr⟩
 |dead=>trivial
 |_=>
  have:=Zpg (ks:=ks) hm hA (Rep.toV (λds e=>by cases e) (λe=>by cases e) h)
  exact Rep.Ks this
theorem Zi7:∀{ds:List D} {arr:Array Value} {off:Nat},kF c w ds arr off->kF (c.o7 R ks) w (D.ss R ks ds) arr off
 |[],_,_,_=>trivial
 |_::_,_,_,⟨⟨v,hv,h1⟩,h2⟩=>⟨⟨v,hv,Wu hm hA h1⟩,Zi7 h2⟩
theorem zab(h:ED c w r row):ED (c.o7 R ks) w r (row.mq R ks):=by
 obtain⟨s1,s2,s3,s4⟩:=Zjh R ks row
 rcases h with⟨h0,h1,h2,h3⟩|⟨h0,arr,ha,hs,hx⟩
 ·refine .inl ⟨h0,s1.trans h1,?_,by rw[s3];exact h3⟩
  rw[h2]at s4;exact List.eq_nil_of_length_eq_zero s4
 ·refine .inr ⟨h0,arr,by rw[s2];exact ha,by rw[s3];exact hs,?_⟩
  rw[s1,s3]
  split
  ·rename_i hb
   simp only[hb,if_true]at hx
   obtain⟨e,k1,k2,k3,k4⟩:=hx
   obtain⟨box,ty,sz,es⟩:=row
   simp only at hb k1 k2 k3 k4
   subst hb;subst k1
   exact⟨D.ss R ks e,rfl,by rw[Z76];exact k2,k3,Zi7 hm hA k4⟩
  ·rename_i hb
   simp only[hb,aA,if_false]at hx
   have he:(row.mq R ks).es=row.es:=by
    unfold Row.mq
    split
    ·simp at hb
    ·rfl
   rw[he];exact nC (λb hb=>⟨.inl hb,rfl⟩) _ _ _ _ hx
omit hm hA in
theorem Kv{x:Row}(h:(c.o7 R ks).R r=some x):da r ks=false/\∃row,c.R r=some row/\x=row.mq R ks:=by
 simp only[Ctx.o7]at h
 cases hb:da r ks with
 |true=>rw[hb]at h;simp at h
 |false=>
  rw[hb]at h
  simp only[aA,if_false,Option.map_eq_some_iff]at h
  obtain⟨row,h1,h2⟩:=h
  exact⟨rfl,row,h1,h2.symm⟩
theorem xab:Mem (c.o7 R ks) w:=by
 refine⟨λr x hx=>?_,λr s x y hx hy v1 v2 he=>?_,λb hb=>?_,hm.top,hm.jU.mono λb hb=>⟨.inl hb,rfl⟩⟩
 ·obtain⟨_,row,h1,rfl⟩:=Kv hx
  exact zab hm hA (hm.row r row h1)
 ·obtain⟨_,row,h1,_⟩:=Kv hx
  obtain⟨_,ao,h2,_⟩:=Kv hy
  exact hm.inj r s row ao h1 h2 v1 v2 he
 ·rcases hb with hb|⟨s,row,h1,h2,h3,rfl⟩
  ·refine⟨(hm.fe b hb).1,λr x hx v=>?_⟩
   obtain⟨_,row,h1,_⟩:=Kv hx
   exact(hm.fe b hb).2 r row h1 v
  ·refine⟨hm.lt h2 h3,λr x hx v e=>?_⟩
   obtain⟨h4,ao,h5,_⟩:=Kv hx
   have:=hm.inj r s ao row h5 h2 v h3 e
   rw[this,h1]at h4;cases h4
end
theorem Zca{R0:Rows}{ks:List Nat}:∀{R:Rows} {i r:Nat},(Kw R0 ks R i).getD r none=if da (i+r) ks=true then none else(R.getD r none).map (Row.mq R0 ks)
 |[],i,r=>by simp[Kw]
 |x::l,i,0=>by
  simp only[Kw,aB]
  cases da i ks<;>cases x<;>simp
 |x::l,i,r+1=>by
  have:=Zca (R0:=R0) (ks:=ks) (R:=l) (i:=i+1) (r:=r)
  rw[show i+1+r=i+(r+1) by omega]at this
  simpa[Kw]using this
def uj(R:Rows)(ks:List Nat)(env:List (Nat×D)):List (Nat×D):=env.map λx=>(x.1,x.2.BS R ks)
theorem Zpq{R:Rows}{ks:List Nat}:∀{env:List (Nat×D)} {K:List (Nat×D)->Prop},EE R ks env K↔K (uj R ks env)
 |[],_=>Iff.rfl
 |(t,d)::l,K=>by
  simp only[EE,D.c6]
  rw[Zpq (env:=l) (K:=λl=>K ((t,d.BS R ks)::l))]
  rfl
theorem Zpv{R:Rows}{ks:List Nat}:∀{env:List (Nat×D)} {t:Nat},look (uj R ks env) t=(look env t).BS R ks
 |[],_=>rfl
 |(u,d)::l,t=>by
  simp only[uj,List.map_cons,look]
  split
  ·rfl
  ·exact Zpv (env:=l)
theorem Wv{M:Nat}{R:Rows}:∀{l:List Nat} {r:Nat},r∈uk M R l->M<=r
 |x ::l,r,h=>by
  simp only[uk]at h
  split at h
  ·rename_i hb
   rcases List.mem_cons.1 h with e|h
   ·rw[e];rw[aE]at hb;exact lE hb.1
   ·exact Wv h
  ·exact Wv h
theorem qac{c0:Ctx}{c:Ctx}{K:St->Prop}(h:Im T G M ops st K)(hs:ff N M c0 w0 c w st a):∃jo c',K jo/\ff N M c0 w0 c' w jo a:=by
 unfold Im at h
 split at h
 ·exact⟨st,c,h,hs⟩
 ·rename_i ks hk
  have hM:∀k,da k (uk M st.rows (SP T G st.env st.rows [] [] ops.toList))=true->M<=k:=λk hk=>Wv (nU.1 hk)
  generalize uk M st.rows (SP T G st.env st.rows [] [] ops.toList)=ks at*
  rw[Zpq,nm]at h
  have hm:=xab (ks:=ks) hs.mem hs.rows
  refine⟨_,c.o7 st.rows ks,h,hm,λr=>?_,λt=>?_,hs.size,hs.defers,hs.fw,hs.gr,hs.reach.step (ks:=ks) hM hs.gr ⟨hm,Zhx,Fr.refl _ w,λb hb=>?_,λr ao hr hv=>?_⟩⟩
  ·rw[Zca,bG,<-hs.rows r];rfl
  ·rw[Zpv];exact vG hs.mem hs.rows (hs.env t)
  ·rcases hb with hb|hb
   ·exact .inl hb
   ·exact .inr (.inl hb)
  ·obtain⟨_,row,h1,_⟩:=Kv hr
   exact .inl ⟨⟨row,h1⟩,hv,rfl⟩
theorem vb{c:Ctx}(hm:Mem c w){e e':List D}(hr:c.R r=some ⟨true,ty,sz,.gen [e]⟩)(hl:e'.length=e.length)(hc:∀arr,kF c w e arr 0->kF c w e' arr 0):ja c w (c.jP r ⟨true,ty,sz,.gen [e']⟩) w/\Mem (c.jP r ⟨true,ty,sz,.gen [e']⟩) w:=by
 have hg:ja c w (c.jP r ⟨true,ty,sz,.gen [e']⟩) w:=by
  refine⟨rfl,aX _,λb hb=>⟨hb,rfl⟩,λs x hs=>?_⟩
  by_cases e:s=r
  ·subst e
   rw[hr]at hs;cases hs
   exact⟨⟨true,ty,sz,.gen [e']⟩,by simp[Ctx.jP],rfl,rfl,rfl,rfl,rfl,Iff.rfl,λ_ a ha=>⟨a,ha,rfl⟩⟩
  ·exact⟨x,by simp[Ctx.jP,e,hs],rfl,rfl,rfl,rfl,rfl,Iff.rfl,λ_ a ha=>⟨a,ha,rfl⟩⟩
 have jD:∀s x,(c.jP r ⟨true,ty,sz,.gen [e']⟩).R s=some x->∃x',c.R s=some x':=λs x hs=>by
  by_cases e:s=r
  ·exact⟨_,by rw[e];exact hr⟩
  ·exact⟨x,by simpa[Ctx.jP,e]using hs⟩
 refine⟨hg,λs x hs=>?_,λs q x y hs hq v1 v2 he=>?_,λb ie=>⟨(hm.fe b ie).1,λs x hs hv=>?_⟩,hm.top,hm.jU⟩
 ·by_cases es:s=r
  ·subst es
   simp only[Ctx.jP,if_true,Option.some.injEq]at hs
   subst hs
   rcases hm.row _ _ hr with⟨g0,g1,g2,g3⟩|⟨g0,arr,g1,g2,g3⟩
   ·cases g1
   ·refine .inr ⟨g0,arr,g1,g2,?_⟩
    simp only[if_true]at g3⊢
    obtain⟨e0,q1,q2,q3,q4⟩:=g3
    cases q1
    exact⟨e',rfl,hl.trans q2,q3,Nl hg (hc arr q4)⟩
  ·have iS:c.R s=some x:=by simpa[Ctx.jP,es]using hs
   exact tz hg rfl Iff.rfl (λ_=>rfl) (hm.row s x iS)
 ·obtain⟨x',jJ⟩:=jD s x hs
  obtain⟨y',Ag⟩:=jD q y hq
  exact hm.inj s q x' y' jJ Ag v1 v2 he
 ·obtain⟨x',jJ⟩:=jD s x hs
  exact(hm.fe b ie).2 s x' jJ hv
theorem qc(h:um T R i=some (ty,sz,e,n)):0<n/\∃d,R.getD i none=some ⟨true,ty,sz,.gen [[d]]⟩/\(d=.c7\/d=.emp):=by
 unfold um at h
 split at h
 ·rename_i jS j5 d hr
  have go:∀{x:Option (TypeId×Nat×TypeId×Nat)},x=some (ty,sz,e,n)->(x=match T.get jS with|some ⟨.slice e n,_,_,_,_,_⟩=>(match bN 0 n with|true=>some (jS,j5,e,n)|false=>none)|_=>none)->0<n/\jS=ty/\j5=sz:=by
   intro x hx hy
   rw[hx]at hy
   split at hy
   ·split at hy
    ·rename_i hb;cases hy;exact⟨lE hb,rfl,rfl⟩
    ·cases hy
   ·cases hy
  split at h
  ·obtain⟨h1,rfl,rfl⟩:=go h rfl
   exact⟨h1,_,hr,.inl rfl⟩
  ·obtain⟨h1,rfl,rfl⟩:=go h rfl
   exact⟨h1,_,hr,.inr rfl⟩
  ·cases h
 ·cases h
theorem Gy{N M:Nat}{c0:Ctx}{w0:World}{w:World}{a:Act}{T:iu}{env:List (Nat×D)}{K:Rows->Prop}:∀{l:List iB} {R:Rows} {c:Ctx},Io T l env R K->ff N M c0 w0 c w ⟨env,R⟩ a->∃R' c',K R'/\ff N M c0 w0 c' w ⟨env,R'⟩ a
 |[],R,c,h,hs=>⟨R,c,h,hs⟩
 |.int _ _::l,R,c,h,hs=>Gy (l:=l) h hs
 |.arr _::l,R,c,h,hs=>Gy (l:=l) h hs
 |.sl _ _ _::l,R,c,h,hs=>Gy (l:=l) h hs
 |.fn _ _::l,R,c,h,hs=>Gy (l:=l) h hs
 |.ptr i _ _::l,R,c,h,hs=>by
  simp only[Io]at h
  split at h
  rotate_left
  ·exact Gy (l:=l) h hs
  rename_i ty sz u n hr
  obtain⟨h0,d,h2,hd⟩:=qc hr
  simp only[nm,Kx]at h
  have bd:i<R.length:=by
   by_cases bd:i<R.length
   ·exact bd
   ·rw[aV,aJ (by omega)]at h2;cases h2
  rw[List.set_append_left _ _ bd]at h
  have hi:c.R i=some ⟨true,ty,sz,.gen [[d]]⟩:=by rw[hs.rows];exact h2
  have hn:c.R R.length=none:=by rw[hs.rows,aV,aJ (aX _)];rfl
  have gq:i≠R.length:=by omega
  have Ip:=Ww hs.mem hn (row:=⟨false,u,n,.gen []⟩) rfl rfl h0
  have Wx:=SQ (w:=w) hn ⟨false,u,n,.gen []⟩
  have Wy:(c.jt R.length ⟨false,u,n,.gen []⟩).R i=some ⟨true,ty,sz,.gen [[d]]⟩:=by simp[Ctx.jt,gq,hi]
  obtain⟨Wz,BT⟩:=vb (e':=[.all R.length]) Ip Wy rfl (λarr hc=>by
   obtain⟨⟨v,hv,h1⟩,_⟩:=hc
   refine⟨⟨v,hv,⟨false,u,n,.gen []⟩,by simp[Ctx.jt],rfl,.inl ⟨.inl rfl,?_⟩⟩,trivial⟩
   rcases hd with rfl|rfl
   ·exact⟨none,h1,Nn⟩
   ·exact h1)
  have hg:=Wx.trans Wz
  have nG:lT c w ((c.jt R.length ⟨false,u,n,.gen []⟩).jP i ⟨true,ty,sz,.gen [[.all R.length]]⟩) w:=by
   refine⟨BT,hg,Fr.refl _ w,λb hb=>.inl hb,λr ao hr hv=>.inl ?_⟩
   have WA:r≠R.length:=λe=>hv (.inl e)
   by_cases er:r=i
   ·subst er;exact⟨⟨_,hi⟩,λe=>hv (.inr e),rfl⟩
   ·exact⟨⟨ao,by simpa[Ctx.jP,Ctx.jt,er,WA]using hr⟩,λe=>hv (.inr e),rfl⟩
  refine Gy (l:=l) h ⟨BT,λr=>?_,λt=>Ac hg (hs.env t),hs.size,hs.defers,hs.fw,hs.gr,hs.reach.step (ks:=[]) (λk hk=>by simp[da]at hk) hs.gr nG.toK⟩
  simp only[Ctx.jP,Ctx.jt]
  by_cases er:r=i
  ·subst er
   simp[aV,bI (show r<(R.set r _).length by simpa using bd),bd]
  ·rw [if_neg er]
   by_cases en:r=R.length
   ·subst en
    simp[aV]
   ·rw[if_neg en,hs.rows]
    by_cases hl:r<R.length
    ·simp[aV,bI (show r<(R.set i _).length by simpa using hl),List.getElem?_set_ne (Ne.symm er)]
    ·have h1:R.getD r none=none:=by rw[aV,aJ (by omega)];rfl
     rw[h1,aV,aJ (by simp;omega)];rfl
