import Derived.Test.YtmalmklaonainaaGreatReplayRefusesGone
import Derived.Laws.IdiomStrings
import Derived.Laws.BytesArg
import Derived.Laws.Cover3
set_option linter.all false
namespace Go.GD
open Go
theorem Zfw{P:Program}(w:World){t tx ty e:TypeId}{i:TypeInfo}(ht:P.underlying t=some (.slice e))(hi:P.info? e=some i)
   {a:Option Addr} {n cap m:Nat} {x:Value} {news:List Value} (hl:(Builtin.lenOf x).run P w= .ok m w) (hf:(Builtin.firstCells i.size (min m n) x).run P w= .ok news.toArray w) {w':World}
   (hst: ∀b,a=some b->(storeCells b news).run P w= .ok () w') (hno:a=none->w'=w):
   (Builtin.copy_ #[t,tx] ty #[.slice a n cap,x]).run P w= .ok (.int .i64 (min m n:Nat)) w':=by
 cases a with
 | none=>
   have:=hno rfl
   subst this
   simp [Builtin.copy_,run_underlying ht,sizeOf,typeInfo,hi,hl,goInt,hf]
 |some b=>simp [Builtin.copy_,run_underlying ht,sizeOf,typeInfo,hi,hl,goInt,hf,hst b rfl]
theorem Z9{I:Blocks}{w:World}{es:List (List D)}{news:List Value}{sz k:Nat}(h:Q1r I w es news.toArray 0 sz)(hk:k<=es.length):Q1r I w (es.take k) (news.take (k*sz)).toArray 0 sz:=by
 rw[Q4y]at h⊢
 intro i hi
 have hi':i<k:=by simp at hi;omega
 obtain⟨h1,h2⟩:=h i (by omega)
 have he:(es.take k).getD i []=es.getD i []:=by simp [List.getD,List.getElem?_take,hi']
 rw[he]
 refine⟨h1,?_⟩
 rw[Q42]at h2⊢
 intro j hj
 obtain⟨v,hv,hp⟩:=h2 j hj
 refine⟨v,?_,hp⟩
 have hlt:i*sz+j<k*sz:=by
   have:=Nat.mul_le_mul_right sz (show i+1<=k by omega)
   rw[Nat.succ_mul]at this
   omega
 simp only[Nat.zero_add,List.getElem?_toArray]at hv⊢
 rw[List.getElem?_take,if_pos hlt]
 exact hv
theorem Qyk{I:Blocks}{w:World}{es ys:List (List D)}{A B:List Value}{sz:Nat}(h1:Q1r I w es A.toArray 0 sz)(hA:A.length=es.length*sz)(h2:Q1r I w ys B.toArray 0 sz):Q1r I w (es++ys) (A++B).toArray 0 sz:=by
 rw[Q4y]at h1 h2⊢
 intro i hi
 by_cases hlt:i<es.length
 . have he:(es++ys).getD i []=es.getD i []:=by simp [List.getD,List.getElem?_append_left hlt]
   rw[he]
   obtain⟨g1,g2⟩:=h1 i hlt
   refine⟨g1,?_⟩
   rw[Q42]at g2⊢
   intro j hj
   obtain⟨v,hv,hp⟩:=g2 j hj
   refine⟨v,?_,hp⟩
   have hl:=(Array.getElem?_eq_some_iff.1 hv).1
   simp only[List.getElem?_toArray,List.size_toArray]at hv hl⊢
   rw[List.getElem?_append_left hl];exact hv
 . have hi':i-es.length<ys.length:=by simp at hi;omega
   have he:(es++ys).getD i []=ys.getD (i-es.length) []:=by simp [List.getD,List.getElem?_append_right (show es.length<=i by omega)]
   rw[he]
   obtain⟨g1,g2⟩:=h2 _ hi'
   refine⟨g1,?_⟩
   rw[Q42]at g2⊢
   intro j hj
   obtain⟨v,hv,hp⟩:=g2 j hj
   refine⟨v,?_,hp⟩
   simp only[List.getElem?_toArray]at hv⊢
   have e:0+i*sz+j=A.length+(0+(i-es.length)*sz+j):=by
     rw[hA,show i*sz=(es.length+(i-es.length))*sz by congr 1;omega,Nat.add_mul];omega
   rw[e,List.getElem?_append_right (by omega)]
   rw[show A.length+(0+(i-es.length)*sz+j)-A.length=0+(i-es.length)*sz+j by omega]
   exact hv
theorem Zna{I:Blocks}{w:World}{es:List (List D)}{arr:Array Value}{sz k:Nat}(h:Q1r I w es arr 0 sz):Q1r I w (es.drop k) (arr.toList.drop (k*sz)).toArray 0 sz:=by
 have:=Qex (l:=k) h
 rw[Q4y]at this⊢
 intro i hi
 obtain⟨h1,h2⟩:=this i hi
 refine⟨h1,?_⟩
 rw[Q42]at h2⊢
 intro j hj
 obtain⟨v,hv,hp⟩:=h2 j hj
 refine⟨v,?_,hp⟩
 simp only[List.getElem?_toArray,List.getElem?_drop]
 rw[<-hv]
 simp [Nat.add_assoc]
theorem zG{c:Ctx}{w:World}(hm:Mem c w){r:Nat}{row row':Row}(hr:c.R r=some row)(h1:row'.box=row.box)(hb:row.box=false)(h2:row'.ty=row.ty)(h3:row'.sz=row.sz)(h4:row'.es.l=row.es.l):Q3s c w (c.upd r row') w/\Mem (c.upd r row') w:=by
  have hg:Q3s c w (c.upd r row') w:=by
    refine⟨rfl,Nat.le_refl _,λb hb=>⟨hb,rfl⟩,λs x hs=> ?_⟩
    by_cases e:s=r
    . subst e
      rw[hr]at hs;cases hs
      exact⟨row',by simp [Ctx.upd],h1,h2,h3,by rw[h4],rfl,Iff.rfl,λ_ a ha=>⟨a,ha,rfl⟩⟩
    . exact⟨x,by simp [Ctx.upd,e,hs],rfl,rfl,rfl,rfl,rfl,Iff.rfl,λ_ a ha=>⟨a,ha,rfl⟩⟩
  have old: ∀s x,(c.upd r row').R s=some x-> ∃x',c.R s=some x':=λs x hs=>by
    by_cases e:s=r
    . exact⟨row,by rw[e];exact hr⟩
    . exact⟨x,by simpa [Ctx.upd,e] using hs⟩
  refine⟨hg,λs x hs=> ?_,λs q x y hs hq v1 v2 he=> ?_,λb hbI=>⟨(hm.imm b hbI).1,λs x hs hv=> ?_⟩,hm.top⟩
  . by_cases e:s=r
    . subst e
      simp only[Ctx.upd,if_true,Option.some.injEq]at hs
      subst hs
      rcases hm.row _ row hr with⟨g0,g1,g2,g3⟩|⟨g0,arr,g1,g2,g3⟩
      . exact .inl ⟨g0,h1.trans g1,h4.trans g2,by rw[h3];exact g3⟩
      . refine .inr ⟨g0,arr,by rw[h2];exact g1,by rw[h3];exact g2,?_⟩
        rw[if_neg (by rw[hb];simp)]at g3
        rw[if_neg (by rw[h1,hb];simp),h4,h3]
        exact g3
    . have hs':c.R s=some x:=by simpa [Ctx.upd,e] using hs
      exact Q3 hg rfl Iff.rfl (λ_=>rfl) (hm.row s x hs')
  . obtain⟨x',hx'⟩:=old s x hs
    obtain⟨y',hy'⟩:=old q y hq
    exact hm.inj s q x' y' hx' hy' v1 v2 he
  . obtain⟨x',hx'⟩:=old s x hs
    exact(hm.imm b hbI).2 s x' hx' hv
theorem za{P:Program}{T:Tab}(hT:Q52 P T){t tx ty:TypeId}{x y:D}{R:Rows}{K:D->Rows->Prop}(h:copyVC T t tx x y R K):
    ∃ val R',K val R'/\ ∀c w vx vy,Mem c w->(∀r,c.R r=R.getD r none)->Rep c w x vx->Rep c w y vy->
      ∃v' w' c',(Builtin.copy_ #[t,tx] ty #[vx,vy]).run P w= .ok v' w'/\NxtW c w c' w'/\(∀r,c'.R r=R'.getD r none)/\Rep c' w' val v':=by
  unfold copyVC at h
  split at h
  . rename_i e esz _ _ _ _ _ ht
    have hk:=Q23 hT ht
    simp only at hk
    split at h
    . rename_i ke sz by' cs z q kx _ _ _ _ _ he htx
      obtain⟨i0,hi0,hs0,_,hl0,hk0,_⟩:=Qc4 (hT.get he)
      simp only at hs0
      split at h
      . rename_i sy ys hsrc
        simp only[Q08,aE,Bool.or_eq_true]at h
        obtain⟨⟨⟨h0,h1⟩,h5⟩,h⟩:=h
        have h0:0<sz:=lE h0
        have h5:sy=sz\/ys.l=[]:=h5.imp bE Zas
        have core: ∀(r o n k:Nat) (ty':TypeId) (es es':Els),es'.l=es.l.take o++ys.l.take k++es.l.drop (o+k)->R.getD r none=some ⟨false,ty',sz,es⟩->k=min ys.l.length n->o+n<=es.l.length-> ∀c w vx vy,Mem c w->(∀r,c.R r=R.getD r none)->
            ((n=0/\ ∃a,vx= .slice a 0 0)\/(¬c.V r/\ ∃cap arr,vx= .slice (some ⟨c.ρ r,o*sz,none⟩) n cap/\w.heap[c.ρ r]? =some (.cells arr ty' (0,0))))->Rep c w y vy->
            ∃v' w' c',(Builtin.copy_ #[t,tx] ty #[vx,vy]).run P w= .ok v' w'/\NxtW c w c' w'/\(∀q,c'.R q=(R.set r (some ⟨false,ty',sz,es'⟩)).getD q none)/\v'= .int .i64 (k:Nat):=by
          intro r o n k ty' es es' hes' hr hk' hon c w vx vy hm hR hx hy
          have hAg:Q7p c R:=λr row row' g1 g2=>by rw[hR,g2]at g1;exact(Option.some.inj g1).symm
          obtain⟨news,s1,s2,s3,s4⟩:=zaa (P:=P) h0 hsrc h5 hm hAg hy
          have hrow:c.R r=some ⟨false,ty',sz,es⟩:=by rw[hR];exact hr
          rcases hx with⟨hn0,a,hx⟩|⟨hV,cap,arr,hx,hh⟩
          . subst hx
            have hk0:k=0:=by omega
            have hrun:=Zfw (P:=P) w (ty:=ty) (tx:=tx) (a:=a) (n:=0) (cap:=0) (news:=[]) (w':=w) hk.1 hi0 s2 (by rw[hs0];simpa using s3 0 (Nat.zero_le _) w rfl) (λb _=>by simp [storeCells]) (λ_=>rfl)
            have hl:es'.l=es.l:=by rw[hes',hk0];simp
            obtain⟨u1,u2⟩:=zG hm hrow (row':=⟨false,ty',sz,es'⟩) rfl rfl rfl rfl hl
            refine⟨_,w,c.upd r ⟨false,ty',sz,es'⟩,hrun,⟨u2,u1,Fr.refl _ w,λb hb=> .inl hb,λq row hq v=> .inl ⟨?_,v,rfl⟩⟩,λq=> ?_,by rw[hk0];simp⟩
            . by_cases e:q=r
              . exact⟨_,by rw[e];exact hrow⟩
              . exact⟨row,by simpa [Ctx.upd,e] using hq⟩
            . rw[Zb8 hr]
              simp only[Ctx.upd]
              split
              . rfl
              . exact hR q
          . subst hx
            obtain⟨cur,ha,_,hE⟩:=hm.real hrow hV
            simp only at ha
            rw[hh]at ha;cases ha
            simp only[Bool.false_eq_true,if_false]at hE
            have hroom:es.l.length*sz<=arr.size:=by
              by_cases he:es.l.length=0
              . rw[he];omega
              . have:=Z3t hE h0 (show es.l.length-1<es.l.length by omega)
                have e1:es.l.length*sz=(es.l.length-1)*sz+sz:=by rw[show es.l.length*sz=(es.l.length-1+1)*sz by congr 1;omega,Nat.succ_mul]
                omega
            have hkn:k<=ys.l.length/\k<=n:=by omega
            have hfit:o*sz+0+(news.take (k*sz)).length<=arr.size:=by
              have h1:(o+k)*sz<=es.l.length*sz:=Nat.mul_le_mul_right _ (by omega)
              rw[Nat.add_mul]at h1
              rw[List.length_take];omega
            have hlen:(news.take (k*sz)).length=k*sz:=by
              have:=Nat.mul_le_mul_right sz hkn.1
              rw[List.length_take];omega
            have hst:=run_storeCells_at (P:=P) (c.ρ r) (o*sz) ty' (news.take (k*sz)) 0 arr w hh hfit (λu hu=>Q1r.one s4 s1 u (List.mem_of_mem_take hu))
            have hrun:=Zfw (P:=P) w (ty:=ty) (tx:=tx) (a:=some ⟨c.ρ r,o*sz,none⟩) (n:=n) (cap:=cap) (news:=news.take (k*sz)) (w':=w.setRow (c.ρ r) (arr.toList.take (o*sz+0)++news.take (k*sz)++arr.toList.drop (o*sz+0+(news.take (k*sz)).length)).toArray) hk.1 hi0 s2 (by rw[hs0,<-hk'];exact s3 k hkn.1 w rfl) (λb hb=>by cases hb;simpa using hst) (λh=>by cases h)
            have hlen2:es'.l.length=es.l.length:=by rw[hes'];simp only[lA,List.length_take,List.length_drop];omega
            have hw:=hm.write (row':=⟨false,ty',sz,es'⟩) hrow hV hh (arr:=(arr.toList.take (o*sz+0)++news.take (k*sz)++arr.toList.drop (o*sz+0+(news.take (k*sz)).length)).toArray)
              (by simp only[List.size_toArray,lA,List.length_take,List.length_drop,Array.length_toList];simp only[List.length_take]at hfit;omega) rfl rfl rfl hlen2
            have hmem:=hw.2 ⟨h0,by
              simp only[Bool.false_eq_true,if_false]
              rw[hes']
              refine Q1m (λb hb=>⟨hb,(hw.1.I b hb).2⟩) _ _ _ _ ?_
              have p1:=Z9 (k:=o) (I:=c.I) (w:=w) (news:=arr.toList) (es:=es.l) (sz:=sz) (by simpa using hE) (by omega)
              have p2:=Z9 (k:=k) s4 hkn.1
              have p3:=Zna (k:=o+k) hE
              have l1:(arr.toList.take (o*sz)).length=(es.l.take o).length*sz:=by
                have:=Nat.mul_le_mul_right sz (show o<=es.l.length by omega)
                rw[List.length_take,List.length_take,show min o es.l.length=o by omega,show arr.toList.length=arr.size from rfl];omega
              have q1:=Qyk p1 l1 p2
              have l2:(arr.toList.take (o*sz)++news.take (k*sz)).length=(es.l.take o++ys.l.take k).length*sz:=by
                rw[lA,l1,hlen,lA,Nat.add_mul,List.length_take (l:=ys.l),show min k ys.l.length=k by omega]
              have q2:=Qyk q1 l2 p3
              have e2:o*sz+0+(news.take (k*sz)).length=(o+k)*sz:=by rw[hlen,Nat.add_mul];omega
              rw[e2]
              simpa using q2⟩
            refine⟨_,_,c.upd r ⟨false,ty',sz,es'⟩,hrun,⟨hmem,hw.1,(Qot w _ _).mono λb _ hb=>⟨r,_,hrow,hV,hb.symm⟩,λb hb=> .inl hb,λq row' hq v=> .inl ⟨?_,v,rfl⟩⟩,λq=> ?_,by rw[hk']⟩
            . by_cases e:q=r
              . exact⟨_,by rw[e];exact hrow⟩
              . exact⟨row',by simpa [Ctx.upd,e] using hq⟩
            . rw[Zb8 hr]
              simp only[Ctx.upd]
              split
              . rfl
              . exact hR q
        cases x<;>simp only at h
        case all r=>
          split at h
          . rename_i ty' s es hr
            simp only[Q08,Q1s]at h
            have hs:=bE h.1
            subst hs
            refine⟨_,_,h.2,λc w vx vy hm hR hx hy=> ?_⟩
            obtain⟨row,q1,q2,hv⟩:=hx
            have hrow:row=⟨false,ty',s,es⟩:=by rw[hR,hr]at q1;exact(Option.some.inj q1).symm
            subst hrow
            have hx':(es.l.length=0/\ ∃a,vx= .slice a 0 0)\/(¬c.V r/\ ∃cap arr,vx= .slice (some ⟨c.ρ r,0*s,none⟩) es.l.length cap/\w.heap[c.ρ r]? =some (.cells arr ty' (0,0))):=by
              rcases hv with⟨hV,a,hv,_⟩|⟨hV,cap,arr,hv,h1,h2,h3,h4⟩
              . have:=(hm.virt q1 hV).2.1
                simp only at this
                exact .inl ⟨by rw[this];rfl,a,hv⟩
              . exact .inr ⟨hV,cap,arr,by rw[Nat.zero_mul];exact hv,h3⟩
            obtain⟨v',w',c',p1,p2,p3,p4⟩:=core r 0 es.l.length _ ty' es ((ys.take (min ys.len es.len)).app (es.drop (min ys.len es.len))) (by rw[Els.app_l,Els.take_l,Els.drop_l,Els.len_l,Els.len_l];simp) hr rfl (by omega) c w vx vy hm hR hx' hy
            exact⟨v',w',c',p1,p2,p3,by rw[p4,Els.len_l,Els.len_l];rfl⟩
          . exact h.elim
        case own r o n=>
          split at h
          . rename_i ty' s es hr
            simp only[Q08,Q1s]at h
            have hs:=bE h.1
            subst hs
            refine⟨_,_,h.2,λc w vx vy hm hR hx hy=> ?_⟩
            obtain⟨row,q1,q2,ho,hv⟩:=hx
            have hrow:row=⟨false,ty',s,es⟩:=by rw[hR,hr]at q1;exact(Option.some.inj q1).symm
            subst hrow
            have hx':(n=0/\ ∃a,vx= .slice a 0 0)\/(¬c.V r/\ ∃cap arr,vx= .slice (some ⟨c.ρ r,o*s,none⟩) n cap/\w.heap[c.ρ r]? =some (.cells arr ty' (0,0))):=by
              rcases hv with⟨h0,a,hv,_⟩|⟨hV,cap,arr,h1,h2,h3,hv,h4⟩
              . exact .inl ⟨h0,a,hv⟩
              . exact .inr ⟨hV,cap,arr,hv,h3⟩
            obtain⟨v',w',c',p1,p2,p3,p4⟩:=core r o n _ ty' es (((es.take o).app (ys.take (min ys.len n))).app (es.drop (o+min ys.len n))) (by rw[Els.app_l,Els.app_l,Els.take_l,Els.take_l,Els.drop_l,Els.len_l]) hr rfl ho c w vx vy hm hR hx' hy
            exact⟨v',w',c',p1,p2,p3,by rw[p4,Els.len_l];rfl⟩
          . exact h.elim
      . exact h.elim
    . exact h.elim
  . exact h.elim
theorem Zla{mx:Bool}{x y:D}{K:D->Prop}(h:minVC mx x y K): ∃val,K val/\ ∀(P:Program) c w vx vy,Rep c w x vx->Rep c w y vy-> ∃u,((mx=false-> ∀tys ty,(Builtin.min_ tys ty #[vx,vy]).run P w= .ok u w)/\(mx=true-> ∀tys ty,(Builtin.max_ tys ty #[vx,vy]).run P w= .ok u w))/\Rep c w val u:=by
 unfold minVC at h
 split at h
 . rename_i k a k' b
   simp only[Q08,decide_eq_true_eq]at h
   obtain⟨rfl,h⟩:=h
   refine⟨_,h,λP c w vx vy hx hy=>⟨_,⟨λe tys ty=> ?_,λe tys ty=> ?_⟩,rfl⟩⟩
   . subst e
     rw[Rep.int.1 hx,Rep.int.1 hy]
     simp [Builtin.min_,Builtin.min2]
   . subst e
     rw[Rep.int.1 hx,Rep.int.1 hy]
     simp [Builtin.max_,Builtin.max2]
 . exact h.elim
theorem yG{P:Program}{T:Tab}(hT:Q52 P T){t:TypeId}{es:Els}{K:D->Prop}(h:nilVC T t es K):K (.nilq es)/\ ∀s fr c w vx vy,Rep c w (.sl s es fr) vx->Rep c w .nils vy-> ∃u,(∀x y,(do eqGuard .eql t x y vx vy;binOp .eql t vx vy).run P w= .ok u w)/\Rep c w (.nilq es) u:=by
 unfold nilVC at h
 split at h
 . rename_i e n _ _ _ _ _ ht
   have hk:=Q23 hT ht
   simp only at hk
   refine⟨h,λs fr c w vx vy hx hy=> ?_⟩
   obtain⟨a,cap,hv,hc,hes⟩:=hx
   rw[show vy=_ from hy,hv]
   refine⟨.bool a.isNone,λx y=> ?_,a.isNone,rfl,λe'=> ?_⟩
   . have hg:(eqGuard .eql t x y (.slice a es.l.length cap) (.slice none 0 0)).run P w= .ok () w:=rfl
     rw[Sem.run_bind,hg]
     simp only[Result.andThen_ok,binOp]
     simp only[run_equal_slice_nil w t e a es.l.length cap hk.1,Sem.run_bind,Result.andThen_ok,Sem.run_pure]
   . rcases hes with hes|⟨b,off,arr,ty,fz,ha,_⟩
     . exact hes
     . subst ha;cases e'
 . exact h.elim
theorem Zne{I:Blocks}{w:World}{l:List Int}{news:List Value}(h:Q1r I w (Els.ints .u8 l).l news.toArray 0 1)(hl:news.length=(Els.ints .u8 l).l.length*1):news=l.map (Value.int .u8):=by
 have hl':news.length=l.length:=by simpa [Els.len] using hl
 apply List.ext_getElem?
 intro i
 by_cases hi:i<l.length
 . obtain⟨h1,h2⟩:=Q4y.1 h i (by simpa [Els.len] using hi)
   rw[Els.get_l _ (show i<(Els.ints .u8 l).len from hi)]at h2
   simp only[Els.get,Qdc,Qag,Q4o,Q72,Q6v,Q4q,Q4j,Q7a,Qbm,Q8e,Q8s,Q89,Qcm,Q62,Q67,Q66,Q8m,Q8b,and_true]at h2
   obtain⟨v,hv,hp⟩:=h2
   simp only[Nat.zero_add,Nat.mul_one,Nat.add_zero,List.getElem?_toArray]at hv
   rw[hv,hp]
   simp [List.getD,hi]
 . rw[List.getElem?_eq_none (by omega),List.getElem?_eq_none (by simp;omega)]
theorem vG{P:Program}{T:Tab}(hT:Q52 P T){s e d:TypeId}{n a1 a2:Nat}{a3:List CTy}{a4:Option (List D)}{a5:Bool}(hs:T.get s=some ⟨.slice e n,a1,a2,a3,a4,a5⟩){x:D}{R:Rows}{K:D->Prop}(h:strVC T e d x R K):
    ∃val,K val/\ ∀c w v,Mem c w->Q7p c R->Rep c w x v->Yld P (convert s d v) w c val:=by
  unfold strVC at h
  split at h
  . rename_i he hd
    have hk1:=Q23 hT hs
    have hk2:=Q23 hT he
    have hk3:=Q23 hT hd
    simp only at hk1 hk2 hk3
    split at h
    . rename_i sy es hsrc
      split at h
      rotate_left
      . exact h.elim
      rename_i l hto
      have hel:=Els.toI_l hto
      simp only[Q08,Bool.or_eq_true]at h
      obtain⟨h5,h⟩:=h
      have h5:sy=1\/es.l=[]:=h5.imp bE Zas
      refine⟨_,h,λc w v hm hA hr=> ?_⟩
      have hsl: ∃a cap,v= .slice a es.l.length cap:=by
        cases x<;>simp only[srcOf]at hsrc<;>try(cases hsrc;done)
        case nils=>cases hsrc;exact⟨none,0,hr⟩
        case emp=>cases hsrc;obtain⟨a,hr,_⟩:=hr;exact⟨a,0,hr⟩
        case sl=>cases hsrc;obtain⟨a,cap,hv,_⟩:=hr;exact⟨a,cap,hv⟩
        case all r=>
          split at hsrc
          . rename_i ty' s' es' hR
            cases hsrc
            obtain⟨row,g1,g2,hv⟩:=hr
            have:=hA r row _ g1 hR
            subst this
            rcases hv with⟨hV,a,hv,_⟩|⟨hV,cap,arr,hv,_⟩
            . have he:=(hm.virt g1 hV).2.1
              simp only at he
              exact⟨a,0,by rw[he];exact hv⟩
            . exact⟨_,cap,hv⟩
          . cases hsrc
        case own r o m=>
          split at hsrc
          . rename_i ty' s' es' hR
            cases hsrc
            obtain⟨row,g1,g2,g5,hv⟩:=hr
            have:=hA r row _ g1 hR
            subst this
            simp only at g5
            have hlen:((es'.drop o).take m).l.length=m:=by rw[Els.take_l,Els.drop_l];simp only[List.length_take,List.length_drop];omega
            rw[hlen]
            rcases hv with⟨h0,a,hv,_⟩|⟨hV,cap,arr,_,_,_,hv,_⟩
            . subst h0;exact⟨a,0,hv⟩
            . exact⟨_,cap,hv⟩
          . cases hsrc
      obtain⟨a,cap,hv⟩:=hsl
      subst hv
      obtain⟨news,s1,s2,s3,s4⟩:=qaa (P:=P) (by omega) hsrc h5 hm hA hr
      rw[hel]at s1 s4
      have hn:=Zne s4 s1
      have hlen:es.l.length=l.length:=by rw[hel];simp [Els.len]
      have hf:=s3 es.l.length (Nat.le_refl _) w rfl
      rw[List.take_of_length_le (by rw[hn,hlen];simp)]at hf
      refine⟨.string ⟨(bytesOf l).toArray⟩,?_,rfl⟩
      rw[run_convert_bytes_string w s d e a es.l.length cap hk1.1 hk2 hk3]
      cases a with
      | none=>
        simp only[Builtin.firstCells,Sem.run_pure,Result.ok.injEq,and_true]at hf
        have h1:news=[]:=by
          have:=congrArg Array.toList hf
          simpa using this.symm
        have he:l=[]:=by rw[h1]at hn;simpa using hn.symm
        subst he
        simp only[Conv.bytesToString,Sem.run_pure,bytesOf,List.map_nil]
        rfl
      | some a=>
        simp only[Builtin.firstCells,Nat.mul_one]at hf
        rw[hn]at hf
        rw[run_bytesToString w a es.l.length cap _ hf,foldl_push_bytes]
        have he0:ByteArray.empty.data= #[]:=rfl
        rw[he0]
        simp [bytesOf]
    . exact h.elim
  . exact h.elim
