import Derived.Test.YtaemmjbkndlkeaaGreatMigrateTellsFk
import Derived.Laws.IdiomStrings
import Derived.Laws.BytesArg
import Derived.Laws.Cover3
import Derived.RangeFuncRecord
import Derived.OrdersIn
import Derived.LoopNIn
open List renaming getD->aV,getElem?_take->aF,getElem?_toArray->bH,getElem?_append_left->bI,size_toArray->aK,getElem?_append_right->bJ,length_take->aD,length_drop->aG,getElem?_eq_none->aJ,range'->bO,map_append->bP,map_congr_left->bQ,ext_getElem->bR,getElem_map->bS,getElem_range'->bT,map_toArray->bV
open Nat renaming mul_le_mul_right->bD,succ_mul->bF,zero_add->bG,add_mul->bK,le_refl->aX,add_zero->aB,le_trans->bL,lt_of_lt_of_le->bM,blt->bN
open Bool renaming or_eq_true->aT,false_eq_true->aA
open Array renaming getD->aY,empty_append->bU,toArray_toList->bW
open Option renaming bind_some->aW
set_option linter.all false
namespace Go.GD
open Go
variable {B M N g i id j k n r sz:Nat}{G:List bd}{I:ab}{K:D->Prop}{P:Program}{Q:Exit->Act->World->Prop}{R R':Rows}{T:iz}{a:Act}{after:Array Edge}{args:Array Operand}{b want:Bool}{cs:List iS}{d val x:D}{ds:List Deferred}{dst:Option Tmp}{e ty type:TypeId}{es:ag}{ev:Operand->D}{ks:List Nat}{news us:List Value}{o:Oper}{ops:Array Oper}{pos:String}{ro:Option Nat}{row:Row}{st:St}{dh:Array TypeId}{v:Value}{w w' w0:World}
theorem Zqe(w:World){t tx ty e:TypeId}{i:TypeInfo}(ht:P.underlying t=some (.slice e))(hi:P.info? e=some i)
 {a:Option Addr} {n cap m:Nat} {x:Value} {news:List Value} (hl:(Builtin.lenOf x).run P w=.ok m w) (hf:(Builtin.firstCells i.size (min m n) x).run P w=.ok news.toArray w) {w':World}
 (kj:∀b,a=some b->(storeCells b news).run P w=.ok () w') (nJ:a=none->w'=w):
 (Builtin.copy_ #[t,tx] ty #[.slice a n cap,x]).run P w=.ok (.int .i64 (min m n:Nat)) w':=by
 cases a with
 |none=>
  have:=nJ rfl
  subst this
  simp[Builtin.copy_,run_underlying ht,sizeOf,typeInfo,hi,hl,goInt,hf]
 |some b=>simp[Builtin.copy_,run_underlying ht,sizeOf,typeInfo,hi,hl,goInt,hf,kj b rfl]
theorem Zic{es:List (List D)}(h:im I w es news.toArray 0 sz)(hk:k<=es.length):im I w (es.take k) (news.take (k*sz)).toArray 0 sz:=by
 rw[Q4]at h⊢
 intro i hi
 have iT:i<k:=by simp at hi;omega
 obtain⟨h1,h2⟩:=h i (by omega)
 have he:(es.take k).getD i []=es.getD i []:=by simp[aV,aF,iT]
 rw[he]
 refine⟨h1,?_⟩
 rw[uN]at h2⊢
 intro j hj
 obtain⟨v,hv,hp⟩:=h2 j hj
 refine⟨v,?_,hp⟩
 have bc:i*sz+j<k*sz:=by
  have:=bD sz (show i+1<=k by omega)
  rw[bF]at this
  omega
 simp only[bG,bH]at hv⊢
 rw[aF,if_pos bc]
 exact hv
theorem Z5w{es ys:List (List D)}{A B:List Value}(h1:im I w es A.toArray 0 sz)(hA:A.length=es.length*sz)(h2:im I w ys B.toArray 0 sz):im I w (es++ys) (A++B).toArray 0 sz:=by
 rw[Q4]at h1 h2⊢
 intro i hi
 by_cases bc:i<es.length
 ·have he:(es++ys).getD i []=es.getD i []:=by simp[aV,bI bc]
  rw[he]
  obtain⟨g1,g2⟩:=h1 i bc
  refine⟨g1,?_⟩
  rw[uN]at g2⊢
  intro j hj
  obtain⟨v,hv,hp⟩:=g2 j hj
  refine⟨v,?_,hp⟩
  have hl:=(Array.getElem?_eq_some_iff.1 hv).1
  simp only[bH,aK]at hv hl⊢
  rw[bI hl];exact hv
 ·have iT:i-es.length<ys.length:=by simp at hi;omega
  have he:(es++ys).getD i []=ys.getD (i-es.length) []:=by simp[aV,bJ (show es.length<=i by omega)]
  rw[he]
  obtain⟨g1,g2⟩:=h2 _ iT
  refine⟨g1,?_⟩
  rw[uN]at g2⊢
  intro j hj
  obtain⟨v,hv,hp⟩:=g2 j hj
  refine⟨v,?_,hp⟩
  simp only[bH]at hv⊢
  have e:0+i*sz+j=A.length+(0+(i-es.length)*sz+j):=by
   rw[hA,show i*sz=(es.length+(i-es.length))*sz by congr 1;omega,bK];omega
  rw[e,bJ (by omega)]
  rw[show A.length+(0+(i-es.length)*sz+j)-A.length=0+(i-es.length)*sz+j by omega]
  exact hv
theorem Zz{es:List (List D)}{arr:Array Value}(h:im I w es arr 0 sz):im I w (es.drop k) (arr.toList.drop (k*sz)).toArray 0 sz:=by
 have:=Lw (l:=k) h
 rw[Q4]at this⊢
 intro i hi
 obtain⟨h1,h2⟩:=this i hi
 refine⟨h1,?_⟩
 rw[uN]at h2⊢
 intro j hj
 obtain⟨v,hv,hp⟩:=h2 j hj
 refine⟨v,?_,hp⟩
 simp only[bH,List.getElem?_drop]
 rw[<-hv]
 simp[Nat.add_assoc]
theorem yH{c:Ctx}(hm:Mem c w){row aq:Row}(hr:c.R r=some row)(h1:aq.box=row.box)(hb:row.box=false)(h2:aq.ty=row.ty)(h3:aq.sz=row.sz)(h4:aq.es.l=row.es.l):ju c w (c.kd r aq) w/\Mem (c.kd r aq) w:=by
 have hg:ju c w (c.kd r aq) w:=by
  refine⟨rfl,aX _,λb hb=>⟨hb,rfl⟩,λs x hs=>?_⟩
  by_cases e:s=r
  ·subst e
   rw[hr]at hs;cases hs
   exact⟨aq,by simp[Ctx.kd],h1,h2,h3,by rw[h4],rfl,Iff.rfl,λ_ a ha=>⟨a,ha,rfl⟩⟩
  ·exact⟨x,by simp[Ctx.kd,e,hs],rfl,rfl,rfl,rfl,rfl,Iff.rfl,λ_ a ha=>⟨a,ha,rfl⟩⟩
 have jW:∀s x,(c.kd r aq).R s=some x->∃x',c.R s=some x':=λs x hs=>by
  by_cases e:s=r
  ·exact⟨row,by rw[e];exact hr⟩
  ·exact⟨x,by simpa[Ctx.kd,e]using hs⟩
 refine⟨hg,λs x hs=>?_,λs q x y hs hq v1 v2 he=>?_,λb ik=>⟨(hm.fk b ik).1,λs x hs hv=>?_⟩,hm.top,hm.kb⟩
 ·by_cases e:s=r
  ·subst e
   simp only[Ctx.kd,if_true,Option.some.injEq]at hs
   subst hs
   rcases hm.row _ row hr with⟨g0,g1,g2,g3⟩|⟨g0,arr,g1,g2,g3⟩
   ·exact .inl ⟨g0,h1.trans g1,h4.trans g2,by rw[h3];exact g3⟩
   ·refine .inr ⟨g0,arr,by rw[h2];exact g1,by rw[h3];exact g2,?_⟩
    rw[if_neg (by rw[hb];simp)]at g3
    rw[if_neg (by rw[h1,hb];simp),h4,h3]
    exact g3
  ·have jk:c.R s=some x:=by simpa[Ctx.kd,e]using hs
   exact uf hg rfl Iff.rfl (λ_=>rfl) (hm.row s x jk)
 ·obtain⟨x',j5⟩:=jW s x hs
  obtain⟨y',AR⟩:=jW q y hq
  exact hm.inj s q x' y' j5 AR v1 v2 he
 ·obtain⟨x',j5⟩:=jW s x hs
  exact(hm.fk b ik).2 s x' j5 hv
theorem za(hT:jC P T){t tx ty:TypeId}{x y:D}{K:D->Rows->Prop}(h:uO T t tx x y R K):
 ∃ val R',K val R'/\∀c w vx vy,Mem c w->(∀r,c.R r=R.getD r none)->Rep c w x vx->Rep c w y vy->
  ∃v' w' c',(Builtin.copy_ #[t,tx] ty #[vx,vy]).run P w=.ok v' w'/\mn c w c' w'/\(∀r,c'.R r=R'.getD r none)/\Rep c' w' val v':=by
 unfold uO at h
 split at h
 ·rename_i e iW _ _ _ _ _ ht
  have hk:=nj hT ht
  simp only at hk
  split at h
  ·rename_i ke sz me cs z q kx _ _ _ _ _ he htx
   obtain⟨i0,rp,Cy,_,Lx,AS,_⟩:=Ez (hT.get he)
   simp only at Cy
   split at h
   ·rename_i sy ys kf
    simp only[de,aE,aT]at h
    obtain⟨⟨⟨h0,h1⟩,h5⟩,h⟩:=h
    have h0:0<sz:=lE h0
    have h5:sy=sz\/ys.l=[]:=h5.imp bE UE
    have core:∀(r o n k:Nat) (kg:TypeId) (es jl:ag),jl.l=es.l.take o++ys.l.take k++es.l.drop (o+k)->R.getD r none=some ⟨false,kg,sz,es⟩->k=min ys.l.length n->o+n<=es.l.length->∀c w vx vy,Mem c w->(∀r,c.R r=R.getD r none)->
     ((n=0/\∃a,vx=.slice a 0 0)\/(¬c.V r/\∃cap arr,vx=.slice (some ⟨c.ρ r,o*sz,none⟩) n cap/\w.heap[c.ρ r]?=some (.cells arr kg (0,0))))->Rep c w y vy->
     ∃v' w' c',(Builtin.copy_ #[t,tx] ty #[vx,vy]).run P w=.ok v' w'/\mn c w c' w'/\(∀q,c'.R q=(R.set r (some ⟨false,kg,sz,jl⟩)).getD q none)/\v'=.int .i64 (k:Nat):=by
     intro r o n k kg es jl Jc hr wT Ly c w vx vy hm hR hx hy
     have pJ:mN c R:=λr row aq g1 g2=>by rw[hR,g2]at g1;exact(Option.some.inj g1).symm
     obtain⟨news,s1,s2,s3,s4⟩:=xad (P:=P) h0 kf h5 hm pJ hy
     have c6:c.R r=some ⟨false,kg,sz,es⟩:=by rw[hR];exact hr
     rcases hx with⟨hn0,a,hx⟩|⟨hV,cap,arr,hx,hh⟩
     ·subst hx
      have AS:k=0:=by omega
      have il:=Zqe (P:=P) w (ty:=ty) (tx:=tx) (a:=a) (n:=0) (cap:=0) (news:=[]) (w':=w) hk.1 rp s2 (by rw[Cy];simpa using s3 0 (Nat.zero_le _) w rfl) (λb _=>by simp[storeCells]) (λ_=>rfl)
      have hl:jl.l=es.l:=by rw[Jc,AS];simp
      obtain⟨u1,u2⟩:=yH hm c6 (aq:=⟨false,kg,sz,jl⟩) rfl rfl rfl rfl hl
      refine⟨_,w,c.kd r ⟨false,kg,sz,jl⟩,il,⟨u2,u1,Fr.refl _ w,λb hb=>.inl hb,λq row hq v=>.inl ⟨?_,v,rfl⟩⟩,λq=>?_,by rw[AS];simp⟩
      ·by_cases e:q=r
       ·exact⟨_,by rw[e];exact c6⟩
       ·exact⟨row,by simpa[Ctx.kd,e]using hq⟩
      ·rw[Fo hr]
       simp only[Ctx.kd]
       split
       ·rfl
       ·exact hR q
     ·subst hx
      obtain⟨cur,ha,_,hE⟩:=hm.real c6 hV
      simp only at ha
      rw[hh]at ha;cases ha
      simp only[aA,if_false]at hE
      have lq:es.l.length*sz<=arr.size:=by
       by_cases he:es.l.length=0
       ·rw[he];omega
       ·have:=Zcm hE h0 (show es.l.length-1<es.l.length by omega)
        have e1:es.l.length*sz=(es.l.length-1)*sz+sz:=by rw[show es.l.length*sz=(es.l.length-1+1)*sz by congr 1;omega,bF]
        omega
      have Yt:k<=ys.l.length/\k<=n:=by omega
      have nq:o*sz+0+(news.take (k*sz)).length<=arr.size:=by
       have h1:(o+k)*sz<=es.l.length*sz:=bD _ (by omega)
       rw[bK]at h1
       rw[aD];omega
      have hlen:(news.take (k*sz)).length=k*sz:=by
       have:=bD sz Yt.1
       rw[aD];omega
      have kj:=run_storeCells_at (P:=P) (c.ρ r) (o*sz) kg (news.take (k*sz)) 0 arr w hh nq (λu hu=>im.one s4 s1 u (List.mem_of_mem_take hu))
      have il:=Zqe (P:=P) w (ty:=ty) (tx:=tx) (a:=some ⟨c.ρ r,o*sz,none⟩) (n:=n) (cap:=cap) (news:=news.take (k*sz)) (w':=w.setRow (c.ρ r) (arr.toList.take (o*sz+0)++news.take (k*sz)++arr.toList.drop (o*sz+0+(news.take (k*sz)).length)).toArray) hk.1 rp s2 (by rw[Cy,<-wT];exact s3 k Yt.1 w rfl) (λb hb=>by cases hb;simpa using kj) (λh=>by cases h)
      have wW:jl.l.length=es.l.length:=by rw[Jc];simp only[lA,aD,aG];omega
      have hw:=hm.write (aq:=⟨false,kg,sz,jl⟩) c6 hV hh (arr:=(arr.toList.take (o*sz+0)++news.take (k*sz)++arr.toList.drop (o*sz+0+(news.take (k*sz)).length)).toArray)
       (by simp only[aK,lA,aD,aG,Array.length_toList];simp only[aD]at nq;omega) rfl rfl rfl wW
      have jy:=hw.2 ⟨h0,by
       simp only[aA,if_false]
       rw[Jc]
       refine ob (λb hb=>⟨hb,(hw.1.I b hb).2⟩) _ _ _ _ ?_
       have p1:=Zic (k:=o) (I:=c.I) (w:=w) (news:=arr.toList) (es:=es.l) (sz:=sz) (by simpa using hE) (by omega)
       have p2:=Zic (k:=k) s4 Yt.1
       have p3:=Zz (k:=o+k) hE
       have l1:(arr.toList.take (o*sz)).length=(es.l.take o).length*sz:=by
        have:=bD sz (show o<=es.l.length by omega)
        rw[aD,aD,show min o es.l.length=o by omega,show arr.toList.length=arr.size from rfl];omega
       have q1:=Z5w p1 l1 p2
       have l2:(arr.toList.take (o*sz)++news.take (k*sz)).length=(es.l.take o++ys.l.take k).length*sz:=by
        rw[lA,l1,hlen,lA,bK,aD (l:=ys.l),show min k ys.l.length=k by omega]
       have q2:=Z5w q1 l2 p3
       have e2:o*sz+0+(news.take (k*sz)).length=(o+k)*sz:=by rw[hlen,bK];omega
       rw[e2]
       simpa using q2⟩
      refine⟨_,_,c.kd r ⟨false,kg,sz,jl⟩,il,⟨jy,hw.1,(Us w _ _).mono λb _ hb=>⟨r,_,c6,hV,hb.symm⟩,λb hb=>.inl hb,λq aq hq v=>.inl ⟨?_,v,rfl⟩⟩,λq=>?_,by rw[wT]⟩
      ·by_cases e:q=r
       ·exact⟨_,by rw[e];exact c6⟩
       ·exact⟨aq,by simpa[Ctx.kd,e]using hq⟩
      ·rw[Fo hr]
       simp only[Ctx.kd]
       split
       ·rfl
       ·exact hR q
    cases x<;>simp only at h
    case all r=>
     split at h
     ·rename_i kg s es hr
      simp only[de,nP]at h
      have hs:=bE h.1
      subst hs
      refine⟨_,_,h.2,λc w vx vy hm hR hx hy=>?_⟩
      obtain⟨row,q1,q2,hv⟩:=hx
      have c6:row=⟨false,kg,s,es⟩:=by rw[hR,hr]at q1;exact(Option.some.inj q1).symm
      subst c6
      have j5:(es.l.length=0/\∃a,vx=.slice a 0 0)\/(¬c.V r/\∃cap arr,vx=.slice (some ⟨c.ρ r,0*s,none⟩) es.l.length cap/\w.heap[c.ρ r]?=some (.cells arr kg (0,0))):=by
       rcases hv with⟨hV,a,hv,_⟩|⟨hV,cap,arr,hv,h1,h2,h3,h4⟩
       ·have:=(hm.nZ q1 hV).2.1
        simp only at this
        exact .inl ⟨by rw[this];rfl,a,hv⟩
       ·exact .inr ⟨hV,cap,arr,by rw[Nat.zero_mul];exact hv,h3⟩
      obtain⟨v',w',c',p1,p2,p3,p4⟩:=core r 0 es.l.length _ kg es ((ys.take (min ys.len es.len)).app (es.drop (min ys.len es.len))) (by rw[ag.kB,ag.jo,ag.kL,ag.iw,ag.iw];simp) hr rfl (by omega) c w vx vy hm hR j5 hy
      exact⟨v',w',c',p1,p2,p3,by rw[p4,ag.iw,ag.iw];rfl⟩
     ·exact h.elim
    case own r o n=>
     split at h
     ·rename_i kg s es hr
      simp only[de,nP]at h
      have hs:=bE h.1
      subst hs
      refine⟨_,_,h.2,λc w vx vy hm hR hx hy=>?_⟩
      obtain⟨row,q1,q2,ho,hv⟩:=hx
      have c6:row=⟨false,kg,s,es⟩:=by rw[hR,hr]at q1;exact(Option.some.inj q1).symm
      subst c6
      have j5:(n=0/\∃a,vx=.slice a 0 0)\/(¬c.V r/\∃cap arr,vx=.slice (some ⟨c.ρ r,o*s,none⟩) n cap/\w.heap[c.ρ r]?=some (.cells arr kg (0,0))):=by
       rcases hv with⟨h0,a,hv,_⟩|⟨hV,cap,arr,h1,h2,h3,hv,h4⟩
       ·exact .inl ⟨h0,a,hv⟩
       ·exact .inr ⟨hV,cap,arr,hv,h3⟩
      obtain⟨v',w',c',p1,p2,p3,p4⟩:=core r o n _ kg es (((es.take o).app (ys.take (min ys.len n))).app (es.drop (o+min ys.len n))) (by rw[ag.kB,ag.kB,ag.jo,ag.jo,ag.kL,ag.iw]) hr rfl ho c w vx vy hm hR j5 hy
      exact⟨v',w',c',p1,p2,p3,by rw[p4,ag.iw];rfl⟩
     ·exact h.elim
   ·exact h.elim
  ·exact h.elim
 ·exact h.elim
theorem Zw0{mx:Bool}{x y:D}(h:wX mx x y K):∃val,K val/\∀(P:Program) c w vx vy,Rep c w x vx->Rep c w y vy->∃u,((mx=false->∀dh ty,(Builtin.min_ dh ty #[vx,vy]).run P w=.ok u w)/\(mx=true->∀dh ty,(Builtin.max_ dh ty #[vx,vy]).run P w=.ok u w))/\Rep c w val u:=by
 unfold wX at h
 split at h
 ·rename_i k a k' b
  simp only[de,decide_eq_true_eq]at h
  obtain⟨rfl,h⟩:=h
  refine⟨_,h,λP c w vx vy hx hy=>⟨_,⟨λe dh ty=>?_,λe dh ty=>?_⟩,rfl⟩⟩
  ·subst e
   rw[Rep.int.1 hx,Rep.int.1 hy]
   simp[Builtin.min_,Builtin.min2]
  ·subst e
   rw[Rep.int.1 hx,Rep.int.1 hy]
   simp[Builtin.max_,Builtin.max2]
 ·exact h.elim
theorem Zqq(hT:jC P T){t:TypeId}(h:Lz T t es K):K (.nA es)/\∀c w vx vy,(∃a n cap,vx=.slice a n cap/\(a=none->es.l=[]))->Rep c w .c8 vy->∃u,(∀x y,(do eqGuard .eql t x y vx vy;binOp .eql t vx vy).run P w=.ok u w)/\Rep c w (.nA es) u:=by
 unfold Lz at h
 split at h
 ·rename_i e n _ _ _ _ _ ht
  have hk:=nj hT ht
  simp only at hk
  refine⟨h,λc w vx vy hx hy=>?_⟩
  obtain⟨a,len,cap,hv,gz⟩:=hx
  rw[show vy=_ from hy,hv]
  refine⟨.bool a.isNone,λx y=>?_,a.isNone,rfl,λe'=>?_⟩
  ·have hg:(eqGuard .eql t x y (.slice a len cap) (.slice none 0 0)).run P w=.ok () w:=rfl
   rw[Sem.run_bind,hg]
   simp only[Result.andThen_ok,binOp]
   simp only[run_equal_slice_nil w t e a len cap hk.1,Sem.run_bind,Result.andThen_ok,Sem.run_pure]
  ·exact gz (by cases a<;>simp_all)
 ·exact h.elim
theorem vH(hT:jC P T){t:TypeId}(h:Lz T t es K):K (.nA es)/\∀s fr c w vx vy,Rep c w (.sl s es fr) vx->Rep c w .c8 vy->∃u,(∀x y,(do eqGuard .eql t x y vx vy;binOp .eql t vx vy).run P w=.ok u w)/\Rep c w (.nA es) u:=by
 obtain⟨h1,h2⟩:=Zqq hT h
 refine⟨h1,λs fr c w vx vy hx hy=>h2 c w vx vy ?_ hy⟩
 obtain⟨a,cap,hv,hc,gz⟩:=hx
 refine⟨a,_,cap,hv,λha=>?_⟩
 rcases gz with gz|⟨b,off,arr,ty,fz,hb,_⟩
 ·exact gz
 ·rw[ha]at hb;cases hb
theorem ya(hT:jC P T){t:TypeId}{bx:Bool}{kg kC:Nat}(hR:R.getD r none=some ⟨bx,kg,kC,es⟩)(h:Lz T t es K):K (.nA es)/\∀c w vx vy,Mem c w->mN c R->Rep c w (.all r) vx->Rep c w .c8 vy->∃u,(∀x y,(do eqGuard .eql t x y vx vy;binOp .eql t vx vy).run P w=.ok u w)/\Rep c w (.nA es) u:=by
 obtain⟨h1,h2⟩:=Zqq hT h
 refine⟨h1,λc w vx vy hm hA hx hy=>h2 c w vx vy ?_ hy⟩
 obtain⟨row,g1,g2,hv⟩:=hx
 have:=hA r row _ g1 hR
 subst this
 rcases hv with⟨hV,a,hv,_⟩|⟨hV,cap,arr,hv,_⟩
 ·exact⟨a,0,0,hv,λ_=>(hm.nZ g1 hV).2.1⟩
 ·exact⟨_,_,cap,hv,λe=>by cases e⟩
theorem Zz0{l:List Int}(h:im I w (ag.ints .u8 l).l news.toArray 0 1)(hl:news.length=(ag.ints .u8 l).l.length*1):news=l.map (Value.int .u8):=by
 have rr:news.length=l.length:=by simpa[ag.len]using hl
 apply List.ext_getElem?
 intro i
 by_cases hi:i<l.length
 ·obtain⟨h1,h2⟩:=Q4.1 h i (by simpa[ag.len]using hi)
  rw[ag.nQ _ (show i<(ag.ints .u8 l).len from hi)]at h2
  simp only[ag.get,EA,EB,sR,sS,sU,sV,sW,sX,uo,Q9,uP,uQ,uR,uS,uT,uU,uV,uW,and_true]at h2
  obtain⟨v,hv,hp⟩:=h2
  simp only[bG,Nat.mul_one,aB,bH]at hv
  rw[hv,hp]
  simp[aV,hi]
 ·rw[aJ (by omega),aJ (by simp;omega)]
theorem qI(hT:jC P T){s e d:TypeId}{n a1 a2:Nat}{a3:List rT}{a4:Option (List D)}{a5:Bool}(hs:T.get s=some ⟨.slice e n,a1,a2,a3,a4,a5⟩)(h:wY T e d x R K):
 ∃val,K val/\∀c w v,Mem c w->mN c R->Rep c w x v->Hb P (convert s d v) w c val:=by
 unfold wY at h
 split at h
 ·rename_i he hd
  have nL:=nj hT hs
  have so:=nj hT he
  have LA:=nj hT hd
  simp only at nL so LA
  split at h
  ·rename_i sy es kf
   split at h
   rotate_left
   ·exact h.elim
   rename_i l hto
   have Hc:=ag.toI_l hto
   simp only[de,aT]at h
   obtain⟨h5,h⟩:=h
   have h5:sy=1\/es.l=[]:=h5.imp bE UE
   refine⟨_,h,λc w v hm hA hr=>?_⟩
   have hsl:∃a cap,v=.slice a es.l.length cap:=by
    cases x<;>simp only[sY]at kf<;>try(cases kf;done)
    case c8=>cases kf;exact⟨none,0,hr⟩
    case emp=>cases kf;obtain⟨a,hr,_⟩:=hr;exact⟨a,0,hr⟩
    case sl=>cases kf;obtain⟨a,cap,hv,_⟩:=hr;exact⟨a,cap,hv⟩
    case all r=>
     split at kf
     ·rename_i kg s' jl hR
      cases kf
      obtain⟨row,g1,g2,hv⟩:=hr
      have:=hA r row _ g1 hR
      subst this
      rcases hv with⟨hV,a,hv,_⟩|⟨hV,cap,arr,hv,_⟩
      ·have he:=(hm.nZ g1 hV).2.1
       simp only at he
       exact⟨a,0,by rw[he];exact hv⟩
      ·exact⟨_,cap,hv⟩
     ·cases kf
    case own r o m=>
     split at kf
     ·rename_i kg s' jl hR
      cases kf
      obtain⟨row,g1,g2,g5,hv⟩:=hr
      have:=hA r row _ g1 hR
      subst this
      simp only at g5
      have hlen:((jl.drop o).take m).l.length=m:=by rw[ag.jo,ag.kL];simp only[aD,aG];omega
      rw[hlen]
      rcases hv with⟨h0,a,hv,_⟩|⟨hV,cap,arr,_,_,_,hv,_⟩
      ·subst h0;exact⟨a,0,hv⟩
      ·exact⟨_,cap,hv⟩
     ·cases kf
   obtain⟨a,cap,hv⟩:=hsl
   subst hv
   obtain⟨news,s1,s2,s3,s4⟩:=zad (P:=P) (by omega) kf h5 hm hA hr
   rw[Hc]at s1 s4
   have hn:=Zz0 s4 s1
   have hlen:es.l.length=l.length:=by rw[Hc];simp[ag.len]
   have hf:=s3 es.l.length (aX _) w rfl
   rw[List.take_of_length_le (by rw[hn,hlen];simp)]at hf
   refine⟨.string ⟨(bytesOf l).toArray⟩,?_,rfl⟩
   rw[run_convert_bytes_string w s d e a es.l.length cap nL.1 so LA]
   cases a with
   |none=>
    simp only[Builtin.firstCells,Sem.run_pure,Result.ok.injEq,and_true]at hf
    have h1:news=[]:=by
     have:=congrArg Array.toList hf
     simpa using this.symm
    have he:l=[]:=by rw[h1]at hn;simpa using hn.symm
    subst he
    simp only[Conv.bytesToString,Sem.run_pure,bytesOf,List.map_nil]
    rfl
   |some a=>
    simp only[Builtin.firstCells,Nat.mul_one]at hf
    rw[hn]at hf
    rw[run_bytesToString w a es.l.length cap _ hf,foldl_push_bytes]
    have he0:ByteArray.empty.data= #[]:=rfl
    rw[he0]
    simp[bytesOf]
  ·exact h.elim
 ·exact h.elim
structure AM(c0:Ctx)(w0:World)(c:Ctx)(w:World):Prop where
 cz:ju c0 w0 c w
 fr:Fr (λb=>(∃r x,c0.R r=some x/\¬c0.V r/\c0.ρ r=b)\/c0.X b) w0 w
 fk:∀b,c.I b->c0.I b\/c0.X b\/w0.heap.size<=b
 oO:∀r row,c.R r=some row->¬c.V r->((∃x,c0.R r=some x)/\¬c0.V r/\c.ρ r=c0.ρ r)\/c0.X (c.ρ r)\/w0.heap.size<=c.ρ r
 xb:∀b,c0.X b->c0.base<=b
theorem AM.refl(c:Ctx)(w:World):AM {c with X:=λ_=>False} w c w:=
 ⟨⟨rfl,aX _,λ_ h=>⟨h,rfl⟩,λ_ row h=>⟨row,h,rfl,rfl,rfl,rfl,rfl,Iff.rfl,λ_ arr h=>⟨arr,h,rfl⟩⟩⟩,Fr.refl _ w,λ_ h=>.inl h,λ_ row h v=>.inl ⟨⟨row,h⟩,v,rfl⟩,λ_ h=>h.elim⟩
theorem Zua{c0 c:Ctx}(hM:∀k,da k ks=true->M<=k)(Fp:∀r row,c0.R r=some row->r<M)(h:ju c0 w0 c w):ju c0 w0 (c.kill ks) w:=by
 refine⟨h.base,h.top,h.I,λr row hr=>?_⟩
 obtain⟨aq,g1,g2,g3,g4,g5,g6,gV,g7⟩:=h.R r row hr
 obtain⟨s1,s2,s3,s4⟩:=wZ ks aq
 have bc:=Fp r row hr
 refine⟨aq.kill ks,?_,s1.trans g2,s2.trans g3,s3.trans g4,s4.trans g5,g6,gV,g7⟩
 simp only[Ctx.kill]
 rw[if_neg (λe=>by have:=hM r e;omega),g1];rfl
theorem AM.step{c0 c c':Ctx}(hM:∀k,da k ks=true->M<=k)(Fp:∀r row,c0.R r=some row->r<M)(h:AM c0 w0 c w)(n:j6 ks c w c' w'):AM c0 w0 c' w':=by
 have Cz:∀s x,da s ks=true->c.R s=some x->¬c.V s->c0.X (c.ρ s)\/w0.heap.size<=c.ρ s:=λs x hs hx v'=>by
  rcases h.oO s x hx v' with⟨⟨y,hy⟩,_⟩|e'
  ·have:=Fp s y hy;have:=hM s hs;omega
  ·exact e'
 refine⟨(Zua hM Fp h.cz).trans n.cz,⟨n.fr.os.trans h.fr.os,n.fr.tape.trans h.fr.tape,n.fr.output.trans h.fr.output,bL h.fr.size n.fr.size,λb hb hx=>?_⟩,λb hb=>?_,λr row hr hv=>?_,h.xb⟩
 ·have bc:b<w.heap.size:=bM hb h.fr.size
  refine(n.fr.heap b bc fun⟨r,x,hr,v,e⟩=>?_).trans (h.fr.heap b hb hx)
  rcases h.oO r x hr v with⟨⟨y,hy⟩,v',e'⟩|e'|e'
  ·exact hx (.inl ⟨r,y,hy,v',by rw[<-e',e]⟩)
  ·exact hx (.inr (by rw[<-e];exact e'))
  ·omega
 ·rcases n.fk b hb with h1|⟨s,x,hs,hx,v',e⟩|h1
  ·exact h.fk b h1
  ·rcases Cz s x hs hx v' with h1|h1
   ·exact .inr (.inl (by rw[<-e];exact h1))
   ·exact .inr (.inr (by omega))
  ·have:=h.fr.size;exact .inr (.inr (by omega))
 ·rcases n.oO r row hr hv with⟨⟨x,hx⟩,v',e⟩|⟨s,x,hs,hx,v',e⟩|e
  ·rcases h.oO r x hx v' with⟨h1,h2,e'⟩|e'|e'
   ·exact .inl ⟨h1,h2,e.trans e'⟩
   ·exact .inr (.inl (by rw[e];exact e'))
   ·exact .inr (.inr (by omega))
  ·rcases Cz s x hs hx v' with h1|h1
   ·exact .inr (.inl (by rw[e];exact h1))
   ·exact .inr (.inr (by omega))
  ·have:=h.fr.size;exact .inr (.inr (by omega))
def mH(n:Nat)(w:World)(ds:List Deferred):Prop:=∃bs:List Nat,bs.Nodup/\ds=bs.map (λb=>({target:=.collected b,args:= #[]}:Deferred))/\∀b∈bs,n<=b/\w.heap[b]?=some (.deferred (some []))
theorem mH.nil:mH n w []:=⟨[],List.nodup_nil,rfl,λb hb=>by simp at hb⟩
theorem mH.to(h:mH n w ds)(hf:∀b:Nat,w.heap[b]?=some (Obj.deferred (some []))->w'.heap[b]?=some (Obj.deferred (some []))):mH n w' ds:=by
 obtain⟨bs,h1,h2,h3⟩:=h
 exact⟨bs,h1,h2,λb hb=>⟨(h3 b hb).1,hf b (h3 b hb).2⟩⟩
theorem mH.step{c:Ctx}(h:mH n w ds)(hm:Mem c w)(hf:Fr (λb=>∃r x,c.R r=some x/\¬c.V r/\c.ρ r=b) w w'):mH n w' ds:=by
 refine h.to λb h2=>(hf.heap b (Array.getElem?_eq_some_iff.1 h2).1 fun⟨r,x,hr,hV,e⟩=>?_).trans h2
 rcases hm.row r x hr with h3|⟨_,arr,h3,_⟩
 ·exact hV h3.1
 ·rw[e,h2]at h3;cases h3
theorem mH.put(h:mH n w a.defers):mH n w (a.put dst v).defers:=by
 cases dst<;>exact h
structure fq(N M:Nat)(c0:Ctx)(w0:World)(c:Ctx)(w:World)(st:St)(a:Act):Prop where
 mem:Mem c w
 rows:∀r,c.R r=st.rows.getD r none
 env:∀t,Rep c w (look st.env t) (a.tmps.getD t undef)
 size:N<=a.tmps.size
 defers:mH w0.heap.size w a.defers
 gg:c0.base<=w0.heap.size
 ib:∀r row,c0.R r=some row->r<M
 reach:AM c0 w0 c w
theorem fq.base{c0:Ctx}{c:Ctx}(h:fq N M c0 w0 c w st a):c.base<=w.heap.size:=by
 rw[h.reach.cz.base];exact bL h.gg h.reach.fr.size
theorem Lv{c:Ctx}{env:List (Nat×D)}(f:Nat):Rep c w (cw env (.func f)) (a.eval (.func f)):=by
 simp only[cw,Act.eval]
 cases h:bN f YB with
 |false=>trivial
 |true=>exact⟨[],.inl ⟨lE h,rfl⟩,trivial⟩
theorem OA{c:Ctx}{env:List (Nat×D)}(h:∀t,Rep c w (look env t) (a.tmps.getD t undef))(x:Operand):Rep c w (cw env x) (a.eval x):=by
 cases x with
 |tmp t=>exact h t
 |const v=>
  simp only[cw,Act.eval]
  cases hv:Zn v with
  |none=>trivial
  |some d=>exact Oy hv c w
 |global g=>trivial
 |func f=>exact Lv f
def sM(env:List (Nat×D))(dst:Option Tmp)(d:D):List (Nat×D):=match dst with|none=>env|some t=>(t,d)::env
theorem BF(env:List (Nat×D))(t:Nat)(d:D)(s:Nat):look ((t,d)::env) s=if t=s then d else look env s:=by
 simp only[look]
 cases hb:Nat.beq t s with
 |true=>rw[if_pos (bE hb)]
 |false=>rw[if_neg (λe=>by rw[e]at hb;simp at hb)]
theorem Zhx{c:Ctx}{env:List (Nat×D)}(hN:N<=a.tmps.size)(hd:∀t,dst=some t->t<N)(h:∀t,Rep c w (look env t) (a.tmps.getD t undef))(hv:Rep c w d v)(t:Nat):
 Rep c w (look (sM env dst d) t) ((a.put dst v).tmps.getD t undef):=by
 cases dst with
 |none=>exact h t
 |some s=>
  have hs:=hd s rfl
  simp only[sM,Act.put,BF]
  by_cases e:s=t
  ·subst e
   rw[if_pos rfl]
   have bc:s<a.tmps.size:=bM hs hN
   simpa[aY,bc]using hv
  ·rw[if_neg e]
   have:=h t
   simpa[Array.getElem?_setIfInBounds_ne e]using this
def jM:List Operand->Nat
 |[]=>1
 |.tmp t::l=>t+1+jM l
 |_::l=>jM l
theorem Yu:∀{l:List Operand},0<jM l
 |[]=>by simp[jM]
 |x::l=>by cases x<;>simp only[jM]<;>have:=Yu (l:=l)<;>omega
theorem UF{t:Nat}:∀{l:List Operand},.tmp t∈l->t<jM l
 |x ::l,h=>by
  rcases List.mem_cons.1 h with e|e
  ·subst e;simp only[jM];omega
  ·have:=UF e
   cases x<;>simp only[jM]<;>omega
def Hd(B:Nat):List iS->List (Nat×D)
 |[]=>[]
 |x::l=>(B,x.d)::Hd (B+1) l
theorem OB{env:List (Nat×D)}:∀{cs:List iS} {B t:Nat},look (Hd B cs++env) t=if h:B<=t/\t-B<cs.length then(cs[t-B]'h.2).d else look env t
 |[],B,t=>by simp[Hd]
 |x ::l,B,t=>by
  simp only[Hd,List.cons_append,BF,OB (cs:=l) (B:=B+1)]
  by_cases e:B=t
  ·subst e;simp
  ·rw[if_neg e]
   by_cases h:B+1<=t/\t-(B+1)<l.length
   ·rw[dif_pos h,dif_pos (by simp;omega)]
    have:t-B=(t-(B+1))+1:=by omega
    simp only[this,List.getElem_cons_succ]
   ·rw[dif_neg h,dif_neg (by simp;omega)]
def Fq(args:Array Operand)(n:Nat):Array Operand:=(args.toList++(bO (jM args.toList) n).map Operand.tmp).toArray
def uq(a:Act)(B:Nat)(us:List Value):Act:={tmps:=((List.range B).map (λi=>a.tmps.getD i undef)++us).toArray,defers:=[]}
theorem Zqo{t:Nat}(h:t<B):(uq a B us).tmps.getD t undef=a.tmps.getD t undef:=by
 simp[uq,aY,h,List.getElem_append]
 omega
theorem Zql:(uq a B us).tmps.getD (B+i) undef=us.getD i undef:=by
 simp only[uq,Array.getD_eq_getD_getElem?,bH]
 rw[bJ (by simp)]
 simp[aV]
theorem pr.length{c:Ctx}{w:World}:∀{cs:List iS} {us:List Value},pr c w cs us->us.length=cs.length
 |[],[],_=>rfl
 |_::_,_::_,h=>by simp[pr.length h.2]
 |[],_::_,h=>h.elim
 |_::_,[],h=>h.elim
theorem pr.get{c:Ctx}{w:World}:∀{cs:List iS} {us:List Value},pr c w cs us->∀i (h:i<cs.length),UG c w (cs[i]'h) (us.getD i undef)
 |[],[],_,i,h=>by simp at h
 |_::_,_::_,h,0,_=>by simpa using h.1
 |_::_,_::_,h,i+1,hi=>by simpa using pr.get h.2 i (by simpa using hi)
 |[],_::_,h,_,_=>h.elim
 |_::_,[],h,_,_=>h.elim
theorem Zip{env:List (Nat×D)}:(Fq args cs.length).toList.map (cw (Hd (jM args.toList) cs++env))=args.toList.map (cw env)++cs.map iS.d:=by
 simp only[Fq,bP]
 congr 1
 ·refine bQ λx hx=>?_
  cases x with
  |tmp t=>simp only[cw,OB];rw[dif_neg (by have:=UF hx;omega)]
  |_=>rfl
 ·refine bR (by simp) λi h1 h2=>?_
  have:i<cs.length:=by simpa using h2
  simp only[bS,bT,cw,OB]
  rw[dif_pos (by omega)]
  congr 1
  simp
theorem Z5y:(Fq args us.length).toList.map (uq a (jM args.toList) us).eval=args.toList.map a.eval++us:=by
 simp only[Fq,bP]
 congr 1
 ·refine bQ λx hx=>?_
  cases x with
  |tmp t=>exact Zqo (UF hx)
  |_=>rfl
 ·refine bR (by simp) λi h1 h2=>?_
  have:i<us.length:=h2
  simp only[bS,bT,Act.eval,Nat.one_mul]
  rw[Zql]
  simp[aV,this]
theorem CA{c:Ctx}{env:List (Nat×D)}(hl:∀x∈args.toList,Rep c w (cw env x) (a.eval x))(hc:pr c w cs us):∀x∈(Fq args cs.length).toList,Rep c w (cw (Hd (jM args.toList) cs++env) x) ((uq a (jM args.toList) us).eval x):=by
 intro x hx
 simp only[Fq,List.mem_append,List.mem_map]at hx
 rcases hx with hx|⟨t,ht,rfl⟩
 ·have:=hl x hx
  cases x with
  |tmp t=>
   have bc:=UF hx
   simp only[cw,OB,Act.eval]
   rw[dif_neg (by omega),Zqo bc]
   exact this
  |_=>exact this
 ·rw[List.mem_range'_1]at ht
  obtain⟨i,hi,rfl⟩:∃i:Nat,i<cs.length/\t=jM args.toList+i:=⟨t-jM args.toList,Nat.sub_lt_left_of_lt_add ht.1 ht.2,(Nat.add_sub_cancel' ht.1).symm⟩
  have h2:=pr.get hc i hi
  have h3:look (Hd (jM args.toList) cs++env) (jM args.toList+i)=(cs[i]'hi).d:=by
   rw[OB,dif_pos ⟨by omega,by omega⟩]
   congr 1
   simp
  simp only[cw,Act.eval]
  rw[h3,Zql]
  exact Rep.LB (VRep.Fs (Yv.1 h2))
theorem xaI{f:FuncId}(he:∀args w,(callFunc f args).run P w=.ok (.enter f args) w){t:Tmp}{guard:Option (Nat×Bool)}
 (ht:a.eval (.tmp t)=.func (.func f) #[] us.toArray) {K:Act->World->Prop} {Q:Exit->Act->World->Prop}
 (h:(⟨some 0,.call ⟨.value (.func f),Fq args us.length,dh⟩,type,pos,after,guard⟩:Oper).nM P (uq a (jM args.toList) us) w (λa' w'=>K (a.put dst (a'.tmps.getD 0 undef)) w') (λ_ _ _=>False)):
 (⟨dst,.call ⟨.value (.tmp t),args,dh⟩,type,pos,after,guard⟩:Oper).nM P a w K Q:=by
 have hv:=Z5y (a:=a) (args:=args) (us:=us)
 have r1:(execOp (uq a (jM args.toList) us).eval (⟨some 0,.call ⟨.value (.func f),Fq args us.length,dh⟩,type,pos,after,guard⟩:Oper)).run P w=.ok (.enter f (args.toList.map a.eval++us).toArray) w:=by
  simp only[execOp,resolve,Act.eval,Deferred.ofValue,Sem.run_bind,Sem.run_pure,Result.andThen_ok,invoke,bU,Array.append_empty]
  rw[he,<-hv,<-bV,bW]
 have r2:(execOp a.eval (⟨dst,.call ⟨.value (.tmp t),args,dh⟩,type,pos,after,guard⟩:Oper)).run P w=.ok (.enter f (args.toList.map a.eval++us).toArray) w:=by
  simp only[execOp,resolve,ht,Deferred.ofValue,Sem.run_bind,Sem.run_pure,Result.andThen_ok,invoke,bU]
  rw[he]
  congr 2
  rw[<-List.append_toArray,<-bV,bW]
 have bc:0<(uq a (jM args.toList) us).tmps.size:=by have:=Yu (l:=args.toList);simp[uq];omega
 unfold Oper.nM at h⊢
 rw[r1]at h
 rw[r2]
 refine Calls.mono h λe w' ⟨v,he,hp⟩=>⟨v,he,?_⟩
 have:((uq a (jM args.toList) us).put (some 0) v).tmps.getD 0 undef=v:=by
  simp only[Act.put]
  simp[aY,bc]
 simp only[this]at hp
 exact hp
theorem xI{t:Tmp}{guard:Option (Nat×Bool)}{l:Nat}{rec:Loop}
 (ht:a.eval (.tmp t)=.func (.yield l) #[] #[]) (hl:w.heap[l]?=some (.loop rec)) {K:Act->World->Prop} {Q:Exit->Act->World->Prop} (hs:(args.toList.map a.eval).length=rec.params.size)
 (h:RoundIn Fence.wide 0 P l rec.fn ((rec.params.zip (args.toList.map a.eval).toArray).foldl (λtmps (t,a)=>tmps.setIfInBounds t a) rec.tmps) rec.assign rec.body w λe w'=>∃v,e=.returned v/\K (a.put dst v) w'):
 (⟨dst,.call ⟨.value (.tmp t),args,dh⟩,type,pos,after,guard⟩:Oper).nM P a w K Q:=by
 have r2:(execOp a.eval (⟨dst,.call ⟨.value (.tmp t),args,dh⟩,type,pos,after,guard⟩:Oper)).run P w=.ok (.round l rec.fn ((rec.params.zip (args.toList.map a.eval).toArray).foldl (λtmps (t,a)=>tmps.setIfInBounds t a) rec.tmps) rec.assign rec.body) w:=by
  simp only[execOp,resolve,ht,Deferred.ofValue,Sem.run_bind,Sem.run_pure,Result.andThen_ok,invoke,bU]
  have hy:=run_yield (P:=P) (args:=(args.toList.map a.eval).toArray) hl (by simpa using hs)
  rw[<-hy,<-bV,bW]
 unfold Oper.nM
 rw[r2]
 exact h
section
variable {P:Program} {G:List bd} {M:Nat} {dst:Option Tmp} {f:FuncId} {t:Tmp} {args:Array Operand} {dh:Array TypeId} {type:TypeId} {pos':String} {after:Array Edge} {guard:Option (Nat×Bool)} {env:List (Nat×D)} {cs:List iS} {R:Rows}
theorem OC{x:bd}(dx:bu P x)(hf:x.f=f)(hy:f<YB)(ht:look env t=.gv f cs)
 (h:CB P ⟨some 0,.call ⟨.value (.func f),Fq args cs.length,dh⟩,type,pos',after,guard⟩ (cw (Hd (jM args.toList) cs++env)) R ks val R'):CB P ⟨dst,.call ⟨.value (.tmp t),args,dh⟩,type,pos',after,guard⟩ (cw env) R ks val R':=by
 intro c w a hm hb hR ez K Q hK
 have h1:=ez (.tmp t) (by simp[Op.operands,Call.operands])
 simp only[cw,ht]at h1
 obtain⟨us,⟨_,hv⟩|⟨e6,_⟩,hc⟩:=h1
 rotate_left
 ·exact absurd hy (Nat.not_lt.2 e6)
 have hl:us.length=cs.length:=hc.length
 refine xaI (λaz w=>by rw[<-hf];exact dx.enters (by rw[hf];exact hy) az w) hv ?_
 rw[hl]
 refine h c w _ hm hb hR (λy hy=>?_) _ _ λv w' c' hn ku hr=>?_
 ·have gb:∀x∈args.toList,Rep c w (cw env x) (a.eval x):=λy hy=>ez y (by simp[Op.operands,Call.operands];exact .inr (by simpa using hy))
  simp only[Op.operands,Call.operands]at hy
  rcases Array.mem_append.1 hy with hy|hy
  ·simp at hy;subst hy;exact Lv _
  ·exact CA gb hc y (by simpa using hy)
 ·have bc:0<(uq a (jM args.toList) us).tmps.size:=by have:=Yu (l:=args.toList);simp[uq];omega
  have:((uq a (jM args.toList) us).put (some 0) v).tmps.getD 0 undef=v:=by
   simp only[Act.put]
   simp[aY,bc]
  show K (a.put dst (((uq a (jM args.toList) us).put (some 0) v).tmps.getD 0 undef)) w'
  rw[this]
  exact hK v w' c' hn ku hr
theorem Zxx{K:D->Rows->Prop}(hG:jU P G)(mo:pK G f=none)(ht:look env t=.gv f cs)(h:LC G f (args.toList.map (cw env)++cs.map iS.d) R K):∃val R',K val R'/\CB P ⟨dst,.call ⟨.value (.tmp t),args,dh⟩,type,pos',after,guard⟩ (cw env) R [] val R':=by
 rw[<-Zip]at h
 obtain⟨val,R',x,h1,h2,h3,_⟩:=Yw (dst:=some 0) (dh:=dh) (type:=type) (pos':=pos') (after:=after) (guard:=guard) hG mo h
 obtain⟨dx,hf⟩:=He hG h2
 have w4:x.gone=none:=by simpa[pK,h2]using mo
 exact⟨val,R',h1,OC dx hf (by rw[<-hf];exact dx.real w4) ht h3.toK⟩
theorem qb{K:List Nat->D->Rows->Prop}(hG:jU P G)(sK:(bN f YB||Nat.beq args.size 1)=true)(mo:pK G f=some k)(ht:look env t=.gv f cs)(h:Jd G M f k (args.toList.map (cw env)++cs.map iS.d) R K):∃ks val R',K ks val R'/\(∀j,da j ks=true->M<=j)/\CB P ⟨dst,.call ⟨.value (.tmp t),args,dh⟩,type,pos',after,guard⟩ (cw env) R ks val R':=by
 rw[<-Zip]at h
 by_cases hy:f<YB
 ·obtain⟨ks,val,R',x,h1,h2,h3,h4,h5⟩:=Zwm hG hy (dst:=some 0) (dh:=dh) (type:=type) (pos':=pos') (after:=after) (guard:=guard) mo h
  obtain⟨dx,hf⟩:=He hG h2
  exact⟨ks,val,R',h1,h4,OC dx hf hy ht h5⟩
 ·obtain⟨ks,val,R',x,h1,h2,h3,h4,h5⟩:=Yx hG mo h
  refine⟨ks,val,R',h1,h4,λc w a hm hb hR ez K' Q rU=>?_⟩
  have h1:=ez (.tmp t) (by simp[Op.operands,Call.operands])
  simp only[cw,ht]at h1
  obtain⟨us,⟨bc,_⟩|⟨e6,l,rec,hv,hI,hl,nB⟩,hc⟩:=h1
  ·exact absurd bc hy
  have gb:∀x∈args.toList,Rep c w (cw env x) (a.eval x):=λy hy=>ez y (by simp[Op.operands,Call.operands];exact .inr (by simpa using hy))
  have hlen:us.length=cs.length:=hc.length
  have jm:(args.toList.map a.eval).length=1:=by
   rcases Bool.or_eq_true_iff.1 sK with e|e
   ·exact absurd (lE e) hy
   ·simpa using bE e
  have ga:(args.toList.map a.eval).length=rec.params.size:=by
   obtain⟨_,_,y,_,hp,_,_,_,h1,_⟩:=nB
   rw[hp,h1];exact jm
  exact xI hv hl ga ((h5 c w (uq a (jM args.toList) us).eval hm hb hR (λy hy=>CA gb hc y hy) (λv w'=>K' (a.put dst v) w') λv w' c'=>rU v w' c').2 (Nat.le_of_not_lt hy) l rec (args.toList.map a.eval) us (by rw[<-hlen,Z5y]) hI hl nB jm)
end
def ry(P:Program)(G:List bd)(M:Nat)(o:Oper)(ev:Operand->D)(R:Rows)(ks:List Nat)(val:D)(R':Rows):Prop:=
 if sN G o.op=true then(∀k,da k ks=true->M<=k)/\CB P o ev R ks val R' else ks=[]/\rC P o ev R val R'
theorem ry.toK(h:ry P G M o ev R ks val R'):(∀k,da k ks=true->M<=k)/\CB P o ev R ks val R':=by
 unfold ry at h
 split at h
 ·exact h
 ·obtain⟨rfl,h⟩:=h
  exact⟨λk hk=>by simp[da]at hk,h.toW.toK⟩
theorem BH(hw:sN G o.op=false)(h:rC P o ev R val R'):ry P G M o ev R [] val R':=by
 unfold ry;rw[hw];exact⟨rfl,h⟩
theorem CC(hw:sN G o.op=true)(hk:∀k,da k ks=true->M<=k)(h:CB P o ev R ks val R'):ry P G M o ev R ks val R':=by
 unfold ry;rw[if_pos hw];exact⟨hk,h⟩
def oc(P:Program)(G:List bd)(M:Nat)(ops:Array Oper)(o:Oper)(env:List (Nat×D))(R:Rows)(ks:List Nat)(val:D)(R':Rows):Prop:=
 match o.guard with
 |none=>ry P G M o (cw env) R ks val R'
 |some (j,want)=>∃g,(ops[j]?).bind (·.dst)=some g/\((∃b,look env g=.bool b/\(if b=want then ry P G M o (cw env) R ks val R' else ks=[]/\val=.dw []/\R'=R))\/(look env g=.dw []/\ks=[]/\val=.dw []/\R'=R))
theorem pw{K:St->Prop}(h:st.put N dst d R K):(∀t,dst=some t->t<N)/\K ⟨sM st.env dst d,R⟩:=by
 cases dst with
 |none=>exact⟨λt h=>(by cases h),h⟩
 |some t=>
  simp only[St.put,de]at h
  refine⟨λs hs=>?_,h.2⟩
  cases hs
  exact lE h.1
theorem zb(d:D):d.kill []=d:=by
 cases d with
 |agg cs=>show D.agg (D.jE [] cs)=_;rw[Yy]
 |gv f cs=>exact Yz (.gv f cs)
 |_=>rfl
theorem Zpd:∀{ds:List D},D.rD [] ds=ds
 |[]=>rfl
 |d::l=>by simp[D.rD,zb,Zpd (ds:=l)]
theorem yb(d:D):d.ko []=d:=by
 cases d with
 |dw ds=>show D.dw (D.rD [] ds)=_;rw[Zpd]
 |agg cs=>exact zb (.agg cs)
 |gv f cs=>exact Yz (.gv f cs)
 |_=>rfl
theorem pq{env:List (Nat×D)}{t:Nat}:look (sL [] env) t=look env t:=by rw[CD,yb]
theorem Zw4(hT:jC P T)(hG:jU P G){K:St->Prop}(h:mq T G N M o st K):
 ∃ks val R' iV,(∀t,look iV t=look (sL ks st.env) t)/\(∀t,o.dst=some t->t<N)/\K ⟨sM iV o.dst val,R'⟩/\ry P G M o (cw st.env) st.rows ks val R':=by
 have plain:(sN G o.op=Hf o.op)->(gx T o.op (cw st.env) st.rows λd R=>st.put N o.dst d R K)->∃ks val R' iV,(∀t,look iV t=look (sL ks st.env) t)/\(∀t,o.dst=some t->t<N)/\K ⟨sM iV o.dst val,R'⟩/\ry P G M o (cw st.env) st.rows ks val R':=by
  intro hw h
  obtain⟨val,R',hK,hO⟩:=OD hT o _ _ _ h
  obtain⟨h1,h2⟩:=pw hK
  refine⟨[],_,_,st.env,λt=>pq.symm,h1,h2,?_⟩
  split at hO
  ·rename_i hs
   exact CC (hw.trans hs) (λk hk=>by simp[da]at hk) hO.toK
  ·rename_i hs
   exact BH (by rw[hw];simpa using hs) hO
 unfold mq at h
 split at h
 ·rename_i cc x y ho
  split at h
  ·rename_i b hb
   have hw:sN G o.op=false:=by rw[ho];rfl
   have go:∀z,z∈o.op.operands->(∀c w (a:Act),Rep c w (cw st.env cc) (a.eval cc)->(execOp a.eval o).run P w=.ok (.value (a.eval z)) w)->(cw st.env z).force (λd=>st.put N o.dst d st.rows K)->
    ∃ks val R' iV,(∀t,look iV t=look (sL ks st.env) t)/\(∀t,o.dst=some t->t<N)/\K ⟨sM iV o.dst val,R'⟩/\ry P G M o (cw st.env) st.rows ks val R':=by
    intro z hz il h
    rw[D.c7]at h
    obtain⟨h1,h2⟩:=pw h
    exact⟨[],_,_,st.env,λt=>pq.symm,h1,h2,BH hw (nk λc w a hm hA ez=>⟨_,il c w a (ez cc (by rw[ho];simp[Op.operands])),ez z hz⟩)⟩
   cases b with
   |true=>
    refine go x (by rw[ho];simp[Op.operands]) (λc w a hc=>?_) h
    rw[hb]at hc
    simp only[execOp,ho,Rep.bool.1 hc,asBool,Sem.run_bind,Sem.run_pure,Result.andThen_ok,if_true]
   |false=>
    refine go y (by rw[ho];simp[Op.operands]) (λc w a hc=>?_) h
    rw[hb]at hc
    simp only[execOp,ho,Rep.bool.1 hc,asBool,Sem.run_bind,Sem.run_pure,Result.andThen_ok,aA,if_false]
  ·exact h.elim
 ·rename_i f args dh ho
  obtain⟨dst,op,type,pos,after,guard⟩:=o
  simp only at ho
  subst ho
  split at h
  ·rename_i mo
   split at h
   rotate_left
   ·rename_i Ft
    obtain⟨ks,val,R',x,hK,hx,hM,hO⟩:=vV (dst:=dst) (type:=type) (pos':=pos) (after:=after) (guard:=guard) (dh:=dh) hG mo h
    rw[Je]at hK
    obtain⟨h1,h2⟩:=pw hK
    refine⟨ks,_,_,_,λt=>rfl,h1,h2,CC ?_ hM hO⟩
    have Ft:x.pL=true:=by simpa[CE,hx]using Ft
    cases rz:x.refs with
    |nil=>simp only[sN,hx,rz,Ft]
    |cons b bs=>simp only[sN,hx,rz]
   rename_i Ft
   have Jf:∀x,px G f=some x->x.pL=false:=λx hx=>by simpa[CE,hx]using Ft
   obtain⟨val,R',x,hK,hx,hO,hN⟩:=Yw (dst:=dst) (type:=type) (pos':=pos) (after:=after) (guard:=guard) (dh:=dh) hG mo h
   obtain⟨h1,h2⟩:=pw hK
   refine⟨[],_,_,st.env,λt=>pq.symm,h1,h2,?_⟩
   cases hr:x.refs with
   |nil=>exact BH (by simp only[sN,hx,hr,Jf x hx]) (hN hr)
   |cons b bs=>exact CC (by simp only[sN,hx,hr]) (λk hk=>by simp[da]at hk) hO.toK
  ·rename_i k mo
   obtain⟨hy,h⟩:=de.1 h
   obtain⟨ks,val,R',x,hK,hx,hr,hM,hO⟩:=Zwm hG (lE hy) (dst:=dst) (type:=type) (pos':=pos) (after:=after) (guard:=guard) (dh:=dh) mo h
   rw[Je]at hK
   obtain⟨h1,h2⟩:=pw hK
   refine⟨ks,_,_,_,λt=>rfl,h1,h2,CC ?_ hM hO⟩
   cases rz:x.refs with
   |nil=>exact(hr rz).elim
   |cons b bs=>simp only[sN,hx,rz]
 ·rename_i t args dh ho
  obtain⟨dst,op,type,pos,after,guard⟩:=o
  simp only at ho
  subst ho
  split at h
  ·rename_i f cs ht
   split at h
   ·rename_i mo
    split at h
    ·obtain⟨val,R',hK,hO⟩:=Zxx (dst:=dst) (type:=type) (pos':=pos) (after:=after) (guard:=guard) (dh:=dh) hG mo ht h
     obtain⟨h1,h2⟩:=pw hK
     exact⟨[],_,_,st.env,λt=>pq.symm,h1,h2,CC rfl (λk hk=>by simp[da]at hk) hO⟩
    ·exact h.elim
   ·rename_i k mo
    obtain⟨sK,h⟩:=de.1 h
    obtain⟨ks,val,R',hK,hM,hO⟩:=qb (dst:=dst) (type:=type) (pos':=pos) (after:=after) (guard:=guard) (dh:=dh) hG sK mo ht h
    rw[Je]at hK
    obtain⟨h1,h2⟩:=pw hK
    exact⟨ks,_,_,_,λt=>rfl,h1,h2,CC rfl hM hO⟩
  ·exact h.elim
 ·rename_i args dh ho
  obtain⟨dst,op,type,pos,after,guard⟩:=o
  simp only at ho
  subst ho
  split at h
  ·rename_i x y t tx hx ht
   have gb:args= #[x,y]:=by rw[<-bW (xs:=args),hx]
   have uX:dh= #[t,tx]:=by rw[<-bW (xs:=dh),ht]
   subst gb;subst uX
   obtain⟨ks,R',hK,hM,hr⟩:=Zvy (ty:=type) hT h
   rw[Je]at hK
   obtain⟨h1,h2⟩:=pw hK
   refine⟨ks,_,_,_,λt=>rfl,h1,h2,CC rfl hM λc w a hm hb hR ez K' Q rU=>?_⟩
   obtain⟨v',w',c',il,hn,ku,hv⟩:=hr c w _ _ hm hb hR (ez x (by simp[Op.operands,Call.operands])) (ez y (by simp[Op.operands,Call.operands]))
   refine Hg ?_ (rU v' w' c' hn ku hv)
   simp only[execOp,resolve,Sem.run_bind,Sem.run_pure,Result.andThen_ok,invoke,builtin]
   have:(#[x,y]:Array Operand).map a.eval= #[a.eval x,a.eval y]:=by simp
   rw[this,il];rfl
  ·exact h.elim
 ·rename_i args dh ho
  obtain⟨dst,op,type,pos,after,guard⟩:=o
  simp only at ho
  subst ho
  split at h
  ·rename_i x y t tx hx ht
   have gb:args= #[x,y]:=by rw[<-bW (xs:=args),hx]
   have uX:dh= #[t,tx]:=by rw[<-bW (xs:=dh),ht]
   subst gb;subst uX
   obtain⟨val,R',hK,hr⟩:=za (ty:=type) hT h
   obtain⟨h1,h2⟩:=pw hK
   refine⟨[],_,_,st.env,λt=>pq.symm,h1,h2,CC rfl (λk hk=>by simp[da]at hk) (Fu.toK λc w a hm hb hR ez K' Q rU=>?_)⟩
   obtain⟨v',w',c',il,hn,ku,hv⟩:=hr c w _ _ hm hR (ez x (by simp[Op.operands,Call.operands])) (ez y (by simp[Op.operands,Call.operands]))
   refine Hg ?_ (rU v' w' c' hn ku hv)
   simp only[execOp,resolve,Sem.run_bind,Sem.run_pure,Result.andThen_ok,invoke,builtin]
   have:(#[x,y]:Array Operand).map a.eval= #[a.eval x,a.eval y]:=by simp
   rw[this,il];rfl
  ·exact h.elim
 ·rename_i args dh ho
  split at h
  ·rename_i x y hx
   obtain⟨val,hK,hr⟩:=Zw0 h
   obtain⟨h1,h2⟩:=pw hK
   refine⟨[],_,_,st.env,λt=>pq.symm,h1,h2,BH (by rw[ho];rfl) (nk λc w a hm hA ez=>?_)⟩
   have gb:args= #[x,y]:=by rw[<-bW (xs:=args),hx]
   subst gb
   obtain⟨u,hu,hv⟩:=hr P c w _ _ (ez x (by rw[ho];simp[Op.operands,Call.operands])) (ez y (by rw[ho];simp[Op.operands,Call.operands]))
   refine⟨u,?_,hv⟩
   simp only[execOp,ho,resolve,Sem.run_bind,Sem.run_pure,Result.andThen_ok,invoke,builtin]
   have:(#[x,y]:Array Operand).map a.eval= #[a.eval x,a.eval y]:=by simp
   rw[this]
   have hu:=hu.1 rfl dh o.type
   rw[hu];rfl
  ·exact h.elim
 ·rename_i args dh ho
  split at h
  ·rename_i x y hx
   obtain⟨val,hK,hr⟩:=Zw0 h
   obtain⟨h1,h2⟩:=pw hK
   refine⟨[],_,_,st.env,λt=>pq.symm,h1,h2,BH (by rw[ho];rfl) (nk λc w a hm hA ez=>?_)⟩
   have gb:args= #[x,y]:=by rw[<-bW (xs:=args),hx]
   subst gb
   obtain⟨u,hu,hv⟩:=hr P c w _ _ (ez x (by rw[ho];simp[Op.operands,Call.operands])) (ez y (by rw[ho];simp[Op.operands,Call.operands]))
   refine⟨u,?_,hv⟩
   simp only[execOp,ho,resolve,Sem.run_bind,Sem.run_pure,Result.andThen_ok,invoke,builtin]
   have:(#[x,y]:Array Operand).map a.eval= #[a.eval x,a.eval y]:=by simp
   rw[this]
   have hu:=hu.2 rfl dh o.type
   rw[hu];rfl
  ·exact h.elim
 ·rename_i s d x ho
  split at h
  ·rename_i e _ _ _ _ _ _ hs
   obtain⟨val,hK,hr⟩:=qI hT hs h
   obtain⟨h1,h2⟩:=pw hK
   refine⟨[],_,_,st.env,λt=>pq.symm,h1,h2,BH (by rw[ho];rfl) (nk λc w a hm hA ez=>?_)⟩
   obtain⟨u,hu,hv⟩:=hr c w _ hm hA (ez x (by rw[ho];simp[Op.operands]))
   refine⟨u,?_,hv⟩
   simp only[execOp,ho]
   rw[Sem.run_bind,hu];rfl
  ·rw[<-ho]at h
   exact plain (by rw[ho];rfl) h
 ·rename_i op t x y ty ho
  split at h
  ·rename_i s es fr hx hy
   obtain⟨hK,hr⟩:=vH hT h
   obtain⟨h1,h2⟩:=pw hK
   refine⟨[],_,_,st.env,λt=>pq.symm,h1,h2,BH (by rw[ho];rfl) (nk λc w a hm hA ez=>?_)⟩
   have q1:=ez x (by rw[ho];simp[Op.operands])
   have q2:=ez y (by rw[ho];simp[Op.operands])
   rw[hx]at q1;rw[hy]at q2
   obtain⟨u,hu,hv⟩:=hr s fr c w _ _ q1 q2
   refine⟨u,?_,hv⟩
   simp only[execOp,ho]
   rw[Sem.run_bind,hu x y];rfl
  ·rename_i r hx hy
   split at h
   ·rename_i bx kg kC es hR
    obtain⟨hK,hr⟩:=ya hT hR h
    obtain⟨h1,h2⟩:=pw hK
    refine⟨[],_,_,st.env,λt=>pq.symm,h1,h2,BH (by rw[ho];rfl) (nk λc w a hm hA ez=>?_)⟩
    have q1:=ez x (by rw[ho];simp[Op.operands])
    have q2:=ez y (by rw[ho];simp[Op.operands])
    rw[hx]at q1;rw[hy]at q2
    obtain⟨u,hu,hv⟩:=hr c w _ _ hm hA q1 q2
    refine⟨u,?_,hv⟩
    simp only[execOp,ho]
    rw[Sem.run_bind,hu x y];rfl
   ·exact h.elim
  ·rw[<-ho]at h
   exact plain (by rw[ho];rfl) h
 ·rename_i op n1 n2 n9 n3 n4 n5 n6 n7 n8
  refine plain ?_ h
  unfold sN
  split
  ·rename_i sr;rw[sr];rfl
  ·rename_i sr;exact(n2 _ _ _ sr).elim
  ·rename_i sr;exact(n9 _ _ _ sr).elim
  ·rename_i sr;exact(n3 _ _ sr).elim
  ·rename_i sr;exact(n4 _ _ sr).elim
  ·rename_i m1 m2 m5 m3 m4
   cases sr:o.op<;>first|rfl|exact(m1 _ _ _ sr).elim
theorem UH(h:look st.env g=.bool b)(t:Nat):look (st.kh (.tmp g) b).env t=look st.env t:=by
 simp only[St.kh,BF]
 split
 ·rename_i e;subst e;exact h.symm
 ·rfl
theorem Zz8{env mO:List (Nat×D)}(h:∀t,look mO t=look env t):cw mO=cw env:=by
 funext x;cases x<;>first|exact h _|rfl
theorem Yd(hT:jC P T)(hG:jU P G){l:List Oper}{K:St->Prop}(h:mG T G N M ops (o::l) st K):
 ∃ks val R' iV,(∀t,look iV t=look (sL ks st.env) t)/\(∀t,o.dst=some t->t<N)/\oc P G M ops o st.env st.rows ks val R'/\mG T G N M ops l ⟨sM iV o.dst val,R'⟩ K:=by
 simp only[mG]at h
 split at h
 ·rename_i hg
  obtain⟨ks,val,R',iV,h0,h1,h2,h3⟩:=Zw4 hT hG h
  exact⟨ks,val,R',iV,h0,h1,by unfold oc;rw[hg];exact h3,h2⟩
 ·rename_i j want hg
  split at h
  ·rename_i g hd
   split at h
   ·rename_i b hb
    have yes:∀b',b'=b->mq T G N M o (st.kh (.tmp g) b') (λst=>mG T G N M ops l st K)->b=want->∃ks val R' iV,(∀t,look iV t=look (sL ks st.env) t)/\(∀t,o.dst=some t->t<N)/\oc P G M ops o st.env st.rows ks val R'/\mG T G N M ops l ⟨sM iV o.dst val,R'⟩ K:=by
     intro b' e hh hw
     subst e
     obtain⟨ks,val,R',iV,h0,h1,h2,h3⟩:=Zw4 hT hG hh
     rw[Zz8 (UH hb)]at h3
     refine⟨ks,val,R',iV,λt=>by rw[h0,CD,CD,UH hb],h1,?_,h2⟩
     unfold oc;rw[hg]
     exact⟨g,hd,.inl ⟨_,hb,by rw[if_pos hw];exact h3⟩⟩
    have no:∀b',b'=b->(st.kh (.tmp g) b').put N o.dst (.dw []) st.rows (λst=>mG T G N M ops l st K)->b≠want->∃ks val R' iV,(∀t,look iV t=look (sL ks st.env) t)/\(∀t,o.dst=some t->t<N)/\oc P G M ops o st.env st.rows ks val R'/\mG T G N M ops l ⟨sM iV o.dst val,R'⟩ K:=by
     intro b' e hh hw
     subst e
     obtain⟨h1,h2⟩:=pw hh
     refine⟨[],_,_,_,λt=>by rw[pq,UH hb],h1,?_,h2⟩
     unfold oc;rw[hg]
     exact⟨g,hd,.inl ⟨_,hb,by rw[if_neg hw];exact⟨rfl,rfl,rfl⟩⟩⟩
    cases b<;>cases want<;>simp only[AT]at h
    ·exact yes _ rfl h rfl
    ·exact no _ rfl h (by simp)
    ·exact no _ rfl h (by simp)
    ·exact yes _ rfl h rfl
   ·rename_i hb
    obtain⟨h1,h2⟩:=pw h
    refine⟨[],_,_,st.env,λt=>pq.symm,h1,?_,h2⟩
    unfold oc;rw[hg]
    exact⟨g,hd,.inr ⟨hb,rfl,rfl,rfl⟩⟩
   ·exact h.elim
  ·exact h.elim
theorem UC{c:Ctx}(hg:o.guard=some (j,want))(hd:(ops[j]?).bind (·.dst)=some g)(h:Rep c w (.dw []) (a.tmps.getD g undef)):
 Region.wanted o (yielded ops a.tmps)=false:=by
 obtain⟨vs,hv,CF⟩:=h
 have hy:yielded ops a.tmps j=none:=by
  simp only[yielded,hd,aW]
  cases hx:a.tmps[g]? with
  |none=>rfl
  |some v=>
   have:a.tmps.getD g undef=v:=by simp[hx]
   rw[this]at hv
   rw[hv]
 unfold Region.wanted
 rw[hg]
 simp only[hy]
 rfl
theorem UB(c:Ctx)(w:World):Rep c w (.dw []) undef:=⟨[],rfl,trivial⟩
theorem UD{c:Ctx}(hg:o.guard=some (j,want))(hd:(ops[j]?).bind (·.dst)=some g)(h:Rep c w (.bool b) (a.tmps.getD g undef)):
 Region.wanted o (yielded ops a.tmps)=decide (b=want):=by
 have hv:=Rep.bool.1 h
 have ht:a.tmps[g]?=some (.bool b):=by
  cases hx:a.tmps[g]? with
  |none=>simp[hx,undef]at hv
  |some v=>simp[hx]at hv;rw[hv]
 unfold Region.wanted
 simp only[hg,yielded,hd,aW,ht]
 cases b<;>cases want<;>rfl
def wpOp(P:Program)(ops:Array Oper)(Q:Exit->Act->World->Prop)(i:Nat)(K:Act->World->Prop)(a:Act)(w:World):Prop:=
 match ops[i]? with
 |none=>K a w
 |some o=>if Region.wanted o (yielded ops a.tmps)then o.nM P a w K Q else K (a.put o.dst undef) w
def LD(P:Program)(ops:Array Oper)(Q:Exit->Act->World->Prop):List Nat->Act->World->Prop
 |[],a,w=>Q .normal a w
 |i::rest,a,w=>wpOp P ops Q i (LD P ops Q rest) a w
theorem Zik(i:Nat)(rest:List Nat)(a:Act)(w:World):LD P ops Q (i::rest) a w=wpOp P ops Q i (LD P ops Q rest) a w:=rfl
def I9(P:Program)(md:Region.Mode)(ops:Array Oper)(Q:Exit->Act->World->Prop):Nat->Array Bool->Act->World->Prop
 |0,av,a,w=>Region.ready md ops av=[]/\Q .normal a w
 |fuel+1,av,a,w=>
  (Region.ready md ops av=[]->Q .normal a w)/\
  ∀i∈Region.ready md ops av,wpOp P ops Q i (I9 P md ops Q fuel (av.setIfInBounds i true)) a w
abbrev BI(ro:Option Nat):Fence:={Fence.wide with round:=ro}
theorem z6{P:Program}{ro:Option Nat}{o:Oper}{a:Act}{w:World}{K:Act->World->Prop}{Q Q':Exit->Act->World->Prop}(h:o.nM P a w K Q):o.wpIn (BI ro) 0 P a w K Q':=by
 refine⟨λ_ _=>trivial,?_⟩
 have hd:∀c,o.op≠.defer c:=by
  intro c hc
  unfold Oper.nM at h
  simp only[execOp,hc,Sem.run_bind]at h
  revert h
  cases(resolve a.eval c o.type).run P w with
  |halt _ _=>exactλh=>h
  |ok d w'=>exactλh=>h
 rw[Oper.semAt_eq _ _ _ hd]
 unfold Oper.nM at h
 revert h
 generalize(execOp a.eval o).run P w=r
 intro h
 cases r with
 |halt _ _=>exact h.elim
 |ok n w'=>
  cases n with
  |value v=>exact h
  |skip=>exact h
  |enter f args=>
   refine⟨λe=>(by cases e),?_⟩
   refine CallsIn.mono (F:=Fence.wide) (callsIn_wide.2 h) λe w' ⟨v,he,hk⟩=>?_
   subst he;exact hk
  |round l f tmps assign body=>
   refine⟨λe=>(by cases e),?_⟩
   refine RoundIn.mono (F:=Fence.wide) h λe w' ⟨v,he,hk⟩=>?_
   subst he;exact hk
  |_=>exact h.elim
theorem UI{P:Program}{ro:Option Nat}{ops:Array Oper}{Q:Exit->Act->World->Prop}:∀{l:List Nat} {a:Act} {w:World},LD P ops Q l a w->wpOpsIn (BI ro) 0 P ops Q l a w
 |[],_,_,h=>h
 |i ::l,a,w,h=>by
  rw[Zik]at h
  unfold wpOp at h
  unfold wpOpsIn
  split
  ·rename_i ho;simp only[ho]at h;exact UI h
  ·rename_i o ho
   simp only[ho]at h
   split
   ·rename_i hw;rw[if_pos hw]at h;exact z6 (Q:=Q) (YA (Q':=Q) (λa w h=>UI h) h)
   ·rename_i hw;rw[if_neg hw]at h;exact⟨λ_ _=>trivial,UI h⟩
theorem UJ{P:Program}{ro:Option Nat}{md:Region.Mode}{ops:Array Oper}{Q:Exit->Act->World->Prop}:∀{n:Nat} {av:Array Bool} {a:Act} {w:World},I9 P md ops Q n av a w->wpAnyIn (BI ro) 0 P md ops Q n av a w
 |0,_,_,_,h=>h
 |n +1,av,a,w,h=>by
  refine⟨h.1,λi hi=>?_⟩
  have h:=h.2 i hi
  unfold wpOp at h
  unfold wpOpIn
  split
  ·rename_i ho;simp only[ho]at h;exact UJ h
  ·rename_i o ho
   simp only[ho]at h
   split
   ·rename_i hw;rw[if_pos hw]at h;exact z6 (Q:=Q) (YA (Q':=Q) (λa w h=>UJ h) h)
   ·rename_i hw;rw[if_neg hw]at h;exact⟨λ_ _=>trivial,UJ h⟩
theorem Zpv(h:LD P ops Q (List.range ops.size) a w):(Code.region id ops false).wpIn (BI ro) 0 P Q a w:=wpIn_region (UI h)
theorem Z2(hm:P.follows .mixedOrders=true)
 (h:I9 P .any ops Q ops.size (Array.replicate ops.size false) a {w with drawn:=w.drawn+1}):(Code.region id ops true).wpIn (BI ro) 0 P Q a w:=wpIn_region_any hm (UJ h)
theorem y6{c0:Ctx}{c:Ctx}{iV:List (Nat×D)}(hi:ops[i]?=some o)
 (hs:fq N M c0 w0 c w st a) (h1:∀t,look iV t=look (sL ks st.env) t) (hd:∀t,o.dst=some t->t<N) (hG:oc P G M ops o st.env st.rows ks val R') {K:Act->World->Prop} {Q:Exit->Act->World->Prop}
 (hK:∀a' w' c',fq N M c0 w0 c' w' ⟨sM iV o.dst val,R'⟩ a'->K a' w'):wpOp P ops Q i K a w:=by
 have fin:(∀k,da k ks=true->M<=k)->∀(v:Value) (w':World) (c':Ctx),j6 ks c w c' w'->(∀r,c'.R r=R'.getD r none)->Rep c' w' val v->K (a.put o.dst v) w':=λhM v w' c' hn hR hv=>by
  refine hK _ _ c' ⟨hn.mem,hR,?_,?_,?_,hs.gg,hs.ib,hs.reach.step hM hs.ib hn⟩
  ·exact Zhx hs.size hd (λt=>by rw[h1,CD];exact AN hn.cz (YC (hs.env t))) hv
  ·cases ho:o.dst<;>simp[Act.put]<;>exact hs.size
  ·exact mH.put (hs.defers.step hs.mem hn.fr)
 have run:ry P G M o (cw st.env) st.rows ks val R'->o.nM P a w K Q:=λhX=>hX.toK.2 c w a hs.mem hs.base hs.rows (λx _=>OA hs.env x) K Q (fin hX.toK.1)
 have skip:ks=[]->val=.dw []->R'=st.rows->K (a.put o.dst undef) w:=λe0 e1 e2=>by
  refine hK _ _ c ⟨hs.mem,by rw[e2];exact hs.rows,?_,?_,?_,hs.gg,hs.ib,hs.reach⟩
  ·exact Zhx hs.size hd (λt=>by rw[h1,e0,pq];exact hs.env t) (by rw[e1];exact UB _ _)
  ·cases ho:o.dst<;>simp[Act.put]<;>exact hs.size
  ·exact mH.put hs.defers
 unfold wpOp
 simp only[hi]
 unfold oc at hG
 cases hg:o.guard with
 |none=>
  simp only[hg]at hG
  have hw:Region.wanted o (yielded ops a.tmps)=true:=by simp[Region.wanted,hg]
  rw[if_pos hw]
  exact run hG
 |some jw=>
  obtain⟨j,want⟩:=jw
  simp only[hg]at hG
  obtain⟨g,h2,⟨b,h3,h4⟩|⟨h3,e0,e1,e2⟩⟩:=hG
  rotate_left
  ·have hr:=hs.env g
   rw[h3]at hr
   rw[if_neg (by rw[UC (o:=o) hg h2 hr];simp)]
   exact skip e0 e1 e2
  have hr:=hs.env g
  rw[h3]at hr
  have hw:=UD (o:=o) hg h2 hr
  by_cases e:b=want
  ·rw[if_pos e]at h4
   rw[if_pos (by rw[hw];simpa using e)]
   exact run h4
  ·rw[if_neg e]at h4
   rw[if_neg (by rw[hw];simpa using e)]
   exact skip h4.1 h4.2.1 h4.2.2
theorem z7{P:Program}{T:iz}(hT:jC P T){G:List bd}(hG:jU P G){N M:Nat}{ops:Array Oper}{c0:Ctx}{w0:World}{K:St->Prop}{Q:Exit->Act->World->Prop}(hQ:∀st c w a,K st->fq N M c0 w0 c w st a->Q .normal a w):
 ∀(l:List Oper) (k:Nat) (st:St) (c:Ctx) (w:World) (a:Act),ops.toList.drop k=l->mG T G N M ops l st K->fq N M c0 w0 c w st a->LD P ops Q (bO k l.length) a w
 |[],k,st,c,w,a,_,h,hs=>hQ st c w a h hs
 |o ::l,k,st,c,w,a,hk,h,hs=>by
  have bc:k<ops.toList.length:=by
   by_cases bc:k<ops.toList.length
   ·exact bc
   ·rw[List.drop_eq_nil_of_le (by omega)]at hk;cases hk
  rw[List.drop_eq_getElem_cons bc]at hk
  have ho:ops[k]?=some o:=by
   have:=(List.cons.inj hk).1
   rw[<-this]
   simp at bc
   simp[bc]
  obtain⟨ks,val,R',iV,h1,h2,h3,h4⟩:=Yd hT hG h
  simp only[List.length_cons,List.range'_succ]
  rw[Zik]
  exact y6 ho hs h1 h2 h3 λa' w' c' jk=>z7 hT hG hQ l (k+1) _ c' w' a' (List.cons.inj hk).2 h4 jk
def nz:Exit->Option Ex
 |.normal=>some .normal
 |.exit i=>some (.exit i)
 |.ret=>some .ret
 |_=>none
def uL(ro:Option Nat)(P:Program)(N M:Nat)(code:Code)(st:St)(Q:Ex->St->Prop):Prop:=
 ∀ (c0:Ctx) (w0:World) (c:Ctx) (w:World) (a:Act),fq N M c0 w0 c w st a->
  code.wpIn (BI ro) 0 P (λe a' w'=>∃ex jJ c',nz e=some ex/\Q ex jJ/\fq N M c0 w0 c' w' jJ a') a w
abbrev Tr:=uL none
def Ctx.pL(c:Ctx)(R:Rows)(ks:List Nat):Ctx:=
 {c with R:=λr=>if da r ks=true then none else(c.R r).map (Row.mP R ks),I:=λb=>c.I b\/∃r row,da r ks=true/\c.R r=some row/\¬c.V r/\c.ρ r=b}
section
variable {c:Ctx} {w:World} {R:Rows} {ks:List Nat}
theorem Zqs(R:Rows)(ks:List Nat)(row:Row):(row.mP R ks).box=row.box/\(row.mP R ks).ty=row.ty/\(row.mP R ks).sz=row.sz/\(row.mP R ks).es.l.length=row.es.l.length:=by
 unfold Row.mP;split<;>exact⟨rfl,rfl,rfl,rfl⟩
theorem Zai:∀{e:List D},(D.sZ R ks e).length=e.length
 |[]=>rfl
 |d::l=>by simp[D.sZ,Zai (e:=l)]
theorem Zp5:ju (c.kill ks) w (c.pL R ks) w:=by
 refine⟨rfl,aX _,λb h=>⟨.inl h,rfl⟩,λr x hx=>?_⟩
 obtain⟨h1,row,h2,rfl⟩:=nK hx
 obtain⟨s1,s2,s3,s4⟩:=Zqs R ks row
 obtain⟨k1,k2,k3,k4⟩:=wZ ks row
 refine⟨row.mP R ks,?_,s1.trans k1.symm,s2.trans k2.symm,s3.trans k3.symm,s4.trans k4.symm,rfl,Iff.rfl,λ_ arr h=>⟨arr,h,rfl⟩⟩
 show(if da r ks=true then none else(c.R r).map (Row.mP R ks))=_
 rw[h1,h2];rfl
theorem Z6u:∀{ds:List D} {arr:Array Value} {off:Nat},ds.all D.plain=true->lg c w ds arr off->py c.I w ds arr off
 |[],_,_,_,_=>EA.2 trivial
 |d::ds,arr,off,hp,⟨⟨v,hv,h1⟩,h2⟩=>by
  rw[List.all_cons,aE]at hp
  exact EB.2 ⟨⟨v,hv,dc.plain hp.1 h1⟩,Z6u hp.2 h2⟩
variable (hm:Mem c w) (hA:∀r,c.R r=R.getD r none)
include hm hA
theorem YD(h:dc c w d v):dc (c.pL R ks) w (d.CG R ks) v:=by
 have Jg:∀{d:D},dc c w d v->dc (c.pL R ks) w (d.fg ks) v:=λh=>UK Zp5 (UL h)
 cases d with
 |all r=>
  simp only[D.CG]
  cases hb:da r ks with
  |false=>
   have:=Jg h
   simpa only[D.fg,hb]using this
  |true=>
   obtain⟨row,g1,g2,hv⟩:=h
   have hr:R.getD r none=some row:=by rw[<-hA r];exact g1
   obtain⟨box,ty,sz,es⟩:=row
   simp only at g2
   subst g2
   simp only[hr]
   rcases hv with⟨hV,a,hv,_⟩|⟨hV,cap,arr,hv,g3,g4,g5,g6⟩
   ·have he:=(hm.nZ g1 hV).2.1
    simp only at he
    exact⟨a,0,by rw[he];exact hv,by rw[he];exact aX _,.inl he⟩
   ·obtain⟨iX,jV,hs,hx⟩:=hm.real g1 hV
    simp only at g5 jV hx
    rw[g5]at jV;cases jV
    simp only[aA,if_false]at hx
    exact⟨_,cap,hv,g3,.inr ⟨_,0,arr,_,_,rfl,.inr ⟨r,_,hb,g1,hV,rfl⟩,by simp,g5,ob (λb hb=>⟨.inl hb,rfl⟩) _ _ _ _ hx⟩⟩
 |ptr r i off=>
  simp only[D.CG]
  cases hb:da r ks with
  |false=>
   have:=Jg h
   simpa only[D.fg,hb]using this
  |true=>
   obtain⟨row,g1,g2,g3,hv⟩:=h
   have hr:R.getD r none=some row:=by rw[<-hA r];exact g1
   simp only
   split
   ·rename_i ty sz e he
    rw[he]at hr;cases hr
    split
    ·rename_i hp
     obtain⟨arr,ha,hs,hx⟩:=hm.real g1 g2
     simp only[if_true]at hx
     obtain⟨e',k1,k2,k3,k4⟩:=hx
     have k1:[e]=[e']:=by injection k1
     have k1:e=e':=(List.cons.inj k1).1
     subst k1
     refine⟨c.ρ r,0,arr,ty,(0,0),?_,.inr ⟨r,_,hb,g1,g2,rfl⟩,g3,ha,rF.2 ⟨k2,Zsl (λb hb=>⟨.inl hb,rfl⟩) _ _ _ (Z6u hp k4),rV.2 trivial⟩⟩
     rw[hv];simp
    ·rw[hv];rfl
   ·rw[hv];rfl
 |_=>exact Jg h
theorem Zuz:∀{ds:List D} {vs:List Value},jG c w ds vs->jG (c.pL R ks) w (D.sZ R ks ds) vs
 |[],[],_=>trivial
 |_::_,_::_,h=>⟨YD hm hA h.1,Zuz h.2⟩
 |[],_::_,h=>h.elim
 |_::_,[],h=>h.elim
theorem Zvr(h:VRep c w d v):VRep (c.pL R ks) w (d.Jh R ks) v:=by
 cases d with
 |agg cs=>obtain⟨vs,hv,hr⟩:=h;exact⟨vs,hv,Zuz hm hA hr⟩
 |_=>
  have:=YD (ks:=ks) hm hA (VRep.toC (λcs e=>by cases e) h)
  exact VRep.Fs this
theorem Zw8:∀{ds:List D} {vs:List Value},kJ c w ds vs->kJ (c.pL R ks) w (D.Ji R ks ds) vs
 |[],[],_=>trivial
 |_::_,_::_,h=>⟨Zvr hm hA h.1,Zw8 h.2⟩
 |[],_::_,h=>h.elim
 |_::_,[],h=>h.elim
theorem zI(h:Rep c w d v):Rep (c.pL R ks) w (d.CH R ks) v:=by
 cases d with
 |dw ds=>obtain⟨vs,hv,hr⟩:=h;exact⟨vs,hv,Zw8 hm hA hr⟩
 |dead=>trivial
 |_=>
  have:=Zvr (ks:=ks) hm hA (Rep.toV (λds e=>by cases e) (λe=>by cases e) h)
  exact Rep.LB this
theorem Zo5:∀{ds:List D} {arr:Array Value} {off:Nat},lg c w ds arr off->lg (c.pL R ks) w (D.sZ R ks ds) arr off
 |[],_,_,_=>trivial
 |_::_,_,_,⟨⟨v,hv,h1⟩,h2⟩=>⟨⟨v,hv,YD hm hA h1⟩,Zo5 h2⟩
theorem zah(h:Fv c w r row):Fv (c.pL R ks) w r (row.mP R ks):=by
 obtain⟨s1,s2,s3,s4⟩:=Zqs R ks row
 rcases h with⟨h0,h1,h2,h3⟩|⟨h0,arr,ha,hs,hx⟩
 ·refine .inl ⟨h0,s1.trans h1,?_,by rw[s3];exact h3⟩
  rw[h2]at s4;exact List.eq_nil_of_length_eq_zero s4
 ·refine .inr ⟨h0,arr,by rw[s2];exact ha,by rw[s3];exact hs,?_⟩
  rw[s1,s3]
  split
  ·rename_i hb
   simp only[hb,if_true]at hx
   obtain⟨e,k1,k2,k3,k4⟩:=hx
   obtain⟨box,ty,sz,es⟩:=row
   simp only at hb k1 k2 k3 k4
   subst hb;subst k1
   exact⟨D.sZ R ks e,rfl,by rw[Zai];exact k2,k3,Zo5 hm hA k4⟩
  ·rename_i hb
   simp only[hb,aA,if_false]at hx
   have he:(row.mP R ks).es=row.es:=by
    unfold Row.mP
    split
    ·simp at hb
    ·rfl
   rw[he];exact ob (λb hb=>⟨.inl hb,rfl⟩) _ _ _ _ hx
omit hm hA in
theorem LF{x:Row}(h:(c.pL R ks).R r=some x):da r ks=false/\∃row,c.R r=some row/\x=row.mP R ks:=by
 simp only[Ctx.pL]at h
 cases hb:da r ks with
 |true=>rw[hb]at h;simp at h
 |false=>
  rw[hb]at h
  simp only[aA,if_false,Option.map_eq_some_iff]at h
  obtain⟨row,h1,h2⟩:=h
  exact⟨rfl,row,h1,h2.symm⟩
theorem xah:Mem (c.pL R ks) w:=by
 refine⟨λr x hx=>?_,λr s x y hx hy v1 v2 he=>?_,λb hb=>?_,hm.top,hm.kb.mono λb hb=>⟨.inl hb,rfl⟩⟩
 ·obtain⟨_,row,h1,rfl⟩:=LF hx
  exact zah hm hA (hm.row r row h1)
 ·obtain⟨_,row,h1,_⟩:=LF hx
  obtain⟨_,aq,h2,_⟩:=LF hy
  exact hm.inj r s row aq h1 h2 v1 v2 he
 ·rcases hb with hb|⟨s,row,h1,h2,h3,rfl⟩
  ·refine⟨(hm.fk b hb).1,λr x hx v=>?_⟩
   obtain⟨_,row,h1,_⟩:=LF hx
   exact(hm.fk b hb).2 r row h1 v
  ·refine⟨hm.lt h2 h3,λr x hx v e=>?_⟩
   obtain⟨h4,aq,h5,_⟩:=LF hx
   have:=hm.inj r s aq row h5 h2 v h3 e
   rw[this,h1]at h4;cases h4
end
theorem Zi1{R0:Rows}{ks:List Nat}:∀{R:Rows} {i r:Nat},(LG R0 ks R i).getD r none=if da (i+r) ks=true then none else(R.getD r none).map (Row.mP R0 ks)
 |[],i,r=>by simp[LG]
 |x::l,i,0=>by
  simp only[LG,aB]
  cases da i ks<;>cases x<;>simp
 |x::l,i,r+1=>by
  have:=Zi1 (R0:=R0) (ks:=ks) (R:=l) (i:=i+1) (r:=r)
  rw[show i+1+r=i+(r+1) by omega]at this
  simpa[LG]using this
def uY(R:Rows)(ks:List Nat)(env:List (Nat×D)):List (Nat×D):=env.map λx=>(x.1,x.2.CH R ks)
theorem Zuq{R:Rows}{ks:List Nat}:∀{env:List (Nat×D)} {K:List (Nat×D)->Prop},Fw R ks env K↔K (uY R ks env)
 |[],_=>Iff.rfl
 |(t,d)::l,K=>by
  simp only[Fw,D.c7]
  rw[Zuq (env:=l) (K:=λl=>K ((t,d.CH R ks)::l))]
  rfl
theorem Zwq{R:Rows}{ks:List Nat}:∀{env:List (Nat×D)} {t:Nat},look (uY R ks env) t=(look env t).CH R ks
 |[],_=>rfl
 |(u,d)::l,t=>by
  simp only[uY,List.map_cons,look]
  split
  ·rfl
  ·exact Zwq (env:=l)
theorem YE{M:Nat}{R:Rows}:∀{l:List Nat} {r:Nat},r∈uZ M R l->M<=r
 |x ::l,r,h=>by
  simp only[uZ]at h
  split at h
  ·rename_i hb
   rcases List.mem_cons.1 h with e|h
   ·rw[e];rw[aE]at hb;exact lE hb.1
   ·exact YE h
  ·exact YE h
theorem qai{c0:Ctx}{c:Ctx}{K:St->Prop}(h:Jj T G M ops st K)(hs:fq N M c0 w0 c w st a):∃jJ c',K jJ/\fq N M c0 w0 c' w jJ a:=by
 unfold Jj at h
 split at h
 ·exact⟨st,c,h,hs⟩
 ·rename_i ks hk
  have hM:∀k,da k (uZ M st.rows (UM T G st.env st.rows [] [] ops.toList))=true->M<=k:=λk hk=>YE (oy.1 hk)
  generalize uZ M st.rows (UM T G st.env st.rows [] [] ops.toList)=ks at*
  rw[Zuq,nP]at h
  have hm:=xah (ks:=ks) hs.mem hs.rows
  refine⟨_,c.pL st.rows ks,h,hm,λr=>?_,λt=>?_,hs.size,hs.defers,hs.gg,hs.ib,hs.reach.step (ks:=ks) hM hs.ib ⟨hm,Zp5,Fr.refl _ w,λb hb=>?_,λr aq hr hv=>?_⟩⟩
  ·rw[Zi1,bG,<-hs.rows r];rfl
  ·rw[Zwq];exact zI hs.mem hs.rows (hs.env t)
  ·rcases hb with hb|hb
   ·exact .inl hb
   ·exact .inr (.inl hb)
  ·obtain⟨_,row,h1,_⟩:=LF hr
   exact .inl ⟨⟨row,h1⟩,hv,rfl⟩
theorem vb{c:Ctx}(hm:Mem c w){e e':List D}(hr:c.R r=some ⟨true,ty,sz,.gen [e]⟩)(hl:e'.length=e.length)(hc:∀arr,lg c w e arr 0->lg c w e' arr 0):ju c w (c.kd r ⟨true,ty,sz,.gen [e']⟩) w/\Mem (c.kd r ⟨true,ty,sz,.gen [e']⟩) w:=by
 have hg:ju c w (c.kd r ⟨true,ty,sz,.gen [e']⟩) w:=by
  refine⟨rfl,aX _,λb hb=>⟨hb,rfl⟩,λs x hs=>?_⟩
  by_cases e:s=r
  ·subst e
   rw[hr]at hs;cases hs
   exact⟨⟨true,ty,sz,.gen [e']⟩,by simp[Ctx.kd],rfl,rfl,rfl,rfl,rfl,Iff.rfl,λ_ a ha=>⟨a,ha,rfl⟩⟩
  ·exact⟨x,by simp[Ctx.kd,e,hs],rfl,rfl,rfl,rfl,rfl,Iff.rfl,λ_ a ha=>⟨a,ha,rfl⟩⟩
 have jW:∀s x,(c.kd r ⟨true,ty,sz,.gen [e']⟩).R s=some x->∃x',c.R s=some x':=λs x hs=>by
  by_cases e:s=r
  ·exact⟨_,by rw[e];exact hr⟩
  ·exact⟨x,by simpa[Ctx.kd,e]using hs⟩
 refine⟨hg,λs x hs=>?_,λs q x y hs hq v1 v2 he=>?_,λb ik=>⟨(hm.fk b ik).1,λs x hs hv=>?_⟩,hm.top,hm.kb⟩
 ·by_cases es:s=r
  ·subst es
   simp only[Ctx.kd,if_true,Option.some.injEq]at hs
   subst hs
   rcases hm.row _ _ hr with⟨g0,g1,g2,g3⟩|⟨g0,arr,g1,g2,g3⟩
   ·cases g1
   ·refine .inr ⟨g0,arr,g1,g2,?_⟩
    simp only[if_true]at g3⊢
    obtain⟨e0,q1,q2,q3,q4⟩:=g3
    cases q1
    exact⟨e',rfl,hl.trans q2,q3,OE hg (hc arr q4)⟩
  ·have jk:c.R s=some x:=by simpa[Ctx.kd,es]using hs
   exact uf hg rfl Iff.rfl (λ_=>rfl) (hm.row s x jk)
 ·obtain⟨x',j5⟩:=jW s x hs
  obtain⟨y',AR⟩:=jW q y hq
  exact hm.inj s q x' y' j5 AR v1 v2 he
 ·obtain⟨x',j5⟩:=jW s x hs
  exact(hm.fk b ik).2 s x' j5 hv
theorem qc(h:u0 T R i=some (ty,sz,e,n)):0<n/\∃d,R.getD i none=some ⟨true,ty,sz,.gen [[d]]⟩/\(d=.c8\/d=.emp):=by
 unfold u0 at h
 split at h
 ·rename_i kg kC d hr
  have go:∀{x:Option (TypeId×Nat×TypeId×Nat)},x=some (ty,sz,e,n)->(x=match T.get kg with|some ⟨.slice e n,_,_,_,_,_⟩=>(match bN 0 n with|true=>some (kg,kC,e,n)|false=>none)|_=>none)->0<n/\kg=ty/\kC=sz:=by
   intro x hx hy
   rw[hx]at hy
   split at hy
   ·split at hy
    ·rename_i hb;cases hy;exact⟨lE hb,rfl,rfl⟩
    ·cases hy
   ·cases hy
  split at h
  ·obtain⟨h1,rfl,rfl⟩:=go h rfl
   exact⟨h1,_,hr,.inl rfl⟩
  ·obtain⟨h1,rfl,rfl⟩:=go h rfl
   exact⟨h1,_,hr,.inr rfl⟩
  ·cases h
 ·cases h
theorem Hh{N M:Nat}{c0:Ctx}{w0:World}{w:World}{a:Act}{T:iz}{env:List (Nat×D)}{K:Rows->Prop}:∀{l:List iS} {R:Rows} {c:Ctx},Jk T l env R K->fq N M c0 w0 c w ⟨env,R⟩ a->∃R' c',K R'/\fq N M c0 w0 c' w ⟨env,R'⟩ a
 |[],R,c,h,hs=>⟨R,c,h,hs⟩
 |.int _ _::l,R,c,h,hs=>Hh (l:=l) h hs
 |.arr _::l,R,c,h,hs=>Hh (l:=l) h hs
 |.sl _ _ _::l,R,c,h,hs=>Hh (l:=l) h hs
 |.fn _ _::l,R,c,h,hs=>Hh (l:=l) h hs
 |.ptr i _ _::l,R,c,h,hs=>by
  simp only[Jk]at h
  split at h
  rotate_left
  ·exact Hh (l:=l) h hs
  rename_i ty sz u n hr
  obtain⟨h0,d,h2,hd⟩:=qc hr
  simp only[nP,LH]at h
  have bc:i<R.length:=by
   by_cases bc:i<R.length
   ·exact bc
   ·rw[aV,aJ (by omega)]at h2;cases h2
  rw[List.set_append_left _ _ bc]at h
  have hi:c.R i=some ⟨true,ty,sz,.gen [[d]]⟩:=by rw[hs.rows];exact h2
  have hn:c.R R.length=none:=by rw[hs.rows,aV,aJ (aX _)];rfl
  have ia:i≠R.length:=by omega
  have Jl:=YF hs.mem hn (row:=⟨false,u,n,.gen []⟩) rfl rfl h0
  have YG:=UN (w:=w) hn ⟨false,u,n,.gen []⟩
  have YH:(c.jN R.length ⟨false,u,n,.gen []⟩).R i=some ⟨true,ty,sz,.gen [[d]]⟩:=by simp[Ctx.jN,ia,hi]
  obtain⟨YI,CI⟩:=vb (e':=[.all R.length]) Jl YH rfl (λarr hc=>by
   obtain⟨⟨v,hv,h1⟩,_⟩:=hc
   refine⟨⟨v,hv,⟨false,u,n,.gen []⟩,by simp[Ctx.jN],rfl,.inl ⟨.inl rfl,?_⟩⟩,trivial⟩
   rcases hd with rfl|rfl
   ·exact⟨none,h1,OF⟩
   ·exact h1)
  have hg:=YG.trans YI
  have oh:mn c w ((c.jN R.length ⟨false,u,n,.gen []⟩).kd i ⟨true,ty,sz,.gen [[.all R.length]]⟩) w:=by
   refine⟨CI,hg,Fr.refl _ w,λb hb=>.inl hb,λr aq hr hv=>.inl ?_⟩
   have YJ:r≠R.length:=λe=>hv (.inl e)
   by_cases er:r=i
   ·subst er;exact⟨⟨_,hi⟩,λe=>hv (.inr e),rfl⟩
   ·exact⟨⟨aq,by simpa[Ctx.kd,Ctx.jN,er,YJ]using hr⟩,λe=>hv (.inr e),rfl⟩
  refine Hh (l:=l) h ⟨CI,λr=>?_,λt=>AN hg (hs.env t),hs.size,hs.defers,hs.gg,hs.ib,hs.reach.step (ks:=[]) (λk hk=>by simp[da]at hk) hs.ib oh.toK⟩
  simp only[Ctx.kd,Ctx.jN]
  by_cases er:r=i
  ·subst er
   simp[aV,bI (show r<(R.set r _).length by simpa using bc),bc]
  ·rw [if_neg er]
   by_cases en:r=R.length
   ·subst en
    simp[aV]
   ·rw[if_neg en,hs.rows]
    by_cases hl:r<R.length
    ·simp[aV,bI (show r<(R.set i _).length by simpa using hl),List.getElem?_set_ne (Ne.symm er)]
    ·have h1:R.getD r none=none:=by rw[aV,aJ (by omega)];rfl
     rw[h1,aV,aJ (by simp;omega)];rfl
