import Derived.Test.YtmalmklaonainaaGreatReplayRefusesKill
set_option linter.all false
namespace Go.GD
open Go
theorem Z42{c:Ctx}{w:World}{d:D}{v:Value}(hne: ∀f cs,d≠ .clo f cs)(h:CRep c w d v):CRep {c with base:=0} w d v:=by
 cases d with
 | sl sz es fr=>
   obtain⟨a,cap,hv,hc,hes⟩:=h
   refine⟨a,cap,hv,hc,?_⟩
   rcases hes with hes|⟨b,off,arr,ty,fz,ha,hI,hf,hh,hE⟩
   . exact .inl hes
   . exact .inr ⟨b,off,arr,ty,fz,ha,hI,λ_=>Nat.zero_le _,hh,hE⟩
 |clo f cs=>exact absurd rfl (hne f cs)
 |_=>exact h
theorem Qxo{c:Ctx}{w:World}{d:D}{v:Value}(h:CRep c w d v):CRep {c with base:=0} w d v:=by
 by_cases e: ∃g cs,d= .clo g cs
 . obtain⟨g,cs,rfl⟩:=e
   obtain⟨us,hv,hu⟩:=h
   exact⟨us,hv,Z30 (c:=c) (w:=w) (c':={c with base:=0}) (w':=w) (S:=λ_=>True) (λd v q1 _ q2=>Z42 q1 q2) (λ_ hb=>⟨hb,rfl⟩) (λ_ _=>trivial) hu⟩
 . exact Z42 (λf cs e'=>e ⟨f,cs,e'⟩) h
theorem Z26{c:Ctx}{w:World}: ∀{ds:List D} {vs:List Value},Q3v c w ds vs->Q3v {c with base:=0} w ds vs
 |[],[],_=>trivial
 |_::_,_::_,h=>⟨Qxo h.1,Z26 h.2⟩
 |[],_::_,h=>h.elim
 |_::_,[],h=>h.elim
theorem Z91{c:Ctx}{w:World}{d:D}{v:Value}(h:VRep c w d v):VRep {c with base:=0} w d v:=by
 cases d with
 |agg cs=>obtain⟨vs,hv,hr⟩:=h;exact⟨vs,hv,Z26 hr⟩
 |_=>exact VRep.ofC (Qxo (VRep.toC (λcs e=>by cases e) h))
theorem Qs5{c:Ctx}{w:World}: ∀{ds:List D} {vs:List Value},Q8a c w ds vs->Q8a {c with base:=0} w ds vs
 |[],[],_=>trivial
 |_::_,_::_,h=>⟨Z91 h.1,Qs5 h.2⟩
 |[],_::_,h=>h.elim
 |_::_,[],h=>h.elim
theorem Qyu{c:Ctx}{w:World}: ∀{ds:List D} {arr:Array Value} {off:Nat},Q4g c w ds arr off->Q4g {c with base:=0} w ds arr off
 |[],_,_,_=>trivial
 |_::_,_,_,⟨⟨v,hv,h1⟩,h2⟩=>⟨⟨v,hv,Qxo h1⟩,Qyu h2⟩
theorem Zcz{c:Ctx}{w:World}(h:Mem c w):Mem {c with base:=0} w:=by
 refine⟨λr row hr=> ?_,h.inj,h.imm,h.top⟩
 rcases h.row r row hr with h0|⟨h0,arr,ha,hs,hx⟩
 . exact .inl h0
 . refine .inr ⟨h0,arr,ha,hs,?_⟩
   split
   . rename_i hb
     rw[if_pos hb]at hx
     obtain⟨e,k1,k2,k3,k4⟩:=hx
     exact⟨e,k1,k2,k3,Qyu k4⟩
   . rename_i hb
     rw[if_neg hb]at hx
     exact hx
theorem Qyh{f:Nat->Nat}: ∀{ids:List Nat} {rows:List Row} {R:Rows},ids.Nodup->ids.length<=rows.length->(∀r∈ids,r<R.length)->
    (Qhz f ids rows R).length=R.length/\(∀(i r:Nat),ids[i]? =some r-> ∃row,rows[i]? =some row/\(Qhz f ids rows R).getD r none=some (row.ren f false))/\ ∀r,r∉ids->(Qhz f ids rows R).getD r none=R.getD r none
  | [],rows,R,_,_,_=>by
    have:Qhz f [] rows R=R:=by cases rows<;>rfl
    rw[this]
    exact⟨rfl,λi r h=>by simp at h,λ_ _=>rfl⟩
  |r::ids,[],R,_,hl,_=>by simp at hl
  | r ::ids,row::rows,R,hnd,hl,hlt=>by
    obtain⟨hni,hnd'⟩:=List.nodup_cons.1 hnd
    obtain⟨g1,g2,g3⟩:=Qyh (f:=f) (ids:=ids) (rows:=rows) (R:=R.set r (some (row.ren f false))) hnd' (by simpa using hl) (λq hq=>by simpa using hlt q (by simp [hq]))
    have hr:=hlt r (by simp)
    have hat:(R.set r (some (row.ren f false))).getD r none=some (row.ren f false):=by simp [List.getD,hr]
    have hne: ∀q,q≠r->(R.set r (some (row.ren f false))).getD q none=R.getD q none:=λq hq=>by simp [List.getD,List.getElem?_set_ne (Ne.symm hq)]
    simp only[Qhz]
    refine⟨by simpa using g1,λi q hq=> ?_,λq hq=> ?_⟩
    . cases i with
      | zero=>
        simp at hq;subst hq
        exact⟨row,rfl,by rw[g3 _ hni];exact hat⟩
      |succ i=>simpa using g2 i q (by simpa using hq)
    . have h1:q≠r:=λe=>hq (by simp [e])
      rw[g3 q (λe=>hq (by simp [e])),hne q h1]
def Ctx.behindK(c:Ctx)(c':Ctx)(kl n0:Nat)(R2:Rows):Ctx:=
 { ρ:=λr=>if n0<=r/\r<R2.length then c'.ρ (kl+(r-n0)) else c.ρ r,
   R:=λr=>R2.getD r none,
   V:=λr=>if n0<=r/\r<R2.length then c'.V (kl+(r-n0)) else c.V r,
   I:=c'.I,base:=c.base,top:=c'.top,X:=c.X}
theorem Qfh{i k n:Nat}:memB i (List.range' k n)=true↔k<=i/\i<k+n:=by
 rw[Q39,List.mem_range'_1]
theorem Z7b{c c':Ctx}{w w':World}{R:Rows}{ids:List Nat}{k:Nat}{crows rows':List Row}(hm:Mem c w)(hR: ∀r,c.R r=R.getD r none)
    (hnd:ids.Nodup) (hrows:Qng R (λr=>pos r ids 0) ids=some crows) (hle:(ids.take k).length<=rows'.length)
    (hx:NxtK (List.range' k (crows.length-k)) {c.pass w ids crows false with base:=0} w c' w') (hR': ∀i,c'.R i=rows'[i]?)
    {R2:Rows} (hR2:R2=Qhz (bk (ids.take k) R.length) (ids.take k) rows' (Qo3 (ids.drop k) R 0)++Qt2 (bk (ids.take k) R.length) (rows'.drop (ids.take k).length)):
    Z5k (λ_=>True) (bk (ids.take k) R.length) false c' (c.behindK c' (ids.take k).length R.length R2)/\
    NxtK (ids.drop k) c w (c.behindK c' (ids.take k).length R.length R2) w':=by
  obtain⟨hcl,hcg⟩:=Qax hrows
  generalize hf:bk (ids.take k) R.length=f at*
  generalize hkl:(ids.take k).length=kl at*
  have hRi: ∀r row,R.getD r none=some row->c.R r=some row:=λr row e=>by rw[hR];exact e
  have hlt: ∀r∈ids,r<R.length:=λr hr=>by
    obtain⟨row,h1,_⟩:=hcg _ r (Qh3 hr)
    by_cases hl:r<R.length
    . exact hl
    . rw[List.getD,List.getElem?_eq_none (by omega)]at h1;cases h1
  have htd:ids.take k++ids.drop k=ids:=List.take_append_drop k ids
  have hndk:(ids.take k).Nodup:=by rw[<-htd]at hnd;exact(List.nodup_append.1 hnd).1
  have hdisj: ∀r,r∈ids.take k->r∈ids.drop k->False:=λr h1 h2=>by
    rw[<-htd]at hnd
    exact(List.nodup_append.1 hnd).2.2 r h1 r h2 rfl
  have hkl':kl=min k ids.length:=by rw[<-hkl];simp
  have hkget: ∀i,i<kl->(ids.take k)[i]? =ids[i]? :=λi hi=>by rw[List.getElem?_take,if_pos (by omega)]
  have hgget: ∀i r,ids[i]? =some r->kl<=i->r∈ids.drop k:=λi r hi hge=>by
    have hlt':=(List.getElem?_eq_some_iff.1 hi).1
    have:(ids.drop k)[i-k]? =some r:=by rw[List.getElem?_drop,show k+(i-k)=i by omega];exact hi
    exact List.mem_of_getElem? this
  obtain⟨k1,k2,k3⟩:=Qyh (f:=f) (ids:=ids.take k) (rows:=rows') (R:=Qo3 (ids.drop k) R 0) hndk (by rw[hkl];exact hle) (λr hr=>by rw[Qae];exact hlt r (List.mem_of_mem_take hr))
  rw[Qae]at k1
  have hlen2:R2.length=R.length+(rows'.length-kl):=by rw[hR2];simp [k1,Qt2]
  have hlo: ∀r,r<R.length->R2.getD r none=(Qhz f (ids.take k) rows' (Qo3 (ids.drop k) R 0)).getD r none:=λr hr=>by
    rw[hR2,List.getD,List.getD,List.getElem?_append_left (by omega)]
  have hhi: ∀i,kl<=i->i<rows'.length->R2.getD (R.length+(i-kl)) none=rows'[i]?.map λrow=>row.ren f false:=λi h1 h2=>by
    have: ∀(l:List Row) (j:Nat),(Qt2 f l)[j]? =l[j]?.map λrow=>some (row.ren f false):=λl j=>by simp [Qt2]
    rw[hR2,List.getD,List.getElem?_append_right (by omega),this,k1,show R.length+(i-kl)-R.length=i-kl by omega,List.getElem?_drop,show kl+(i-kl)=i by omega]
    rw[List.getElem?_eq_getElem h2];rfl
  have old: ∀i r row',i<kl->ids[i]? =some r->c'.R i=some row'-> ∃row,c.R r=some row/\row'.box=row.box/\row'.ty=row.ty/\row'.sz=row.sz/\row'.es.l.length=row.es.l.length/\c'.ρ i=c.ρ r/\(c'.V i↔c.V r)/\r<R.length/\R2.getD r none=some (row'.ren f false)/\f i=r/\
      (¬c.V r-> ∀arr,w.heap[c.ρ r]? =some (.cells arr row.ty (0,0))-> ∃arr',w'.heap[c.ρ r]? =some (.cells arr' row.ty (0,0))/\arr'.size=arr.size):=by
    intro i r row' hik hi hrow'
    obtain⟨row,h1,h2⟩:=hcg i r hi
    have hm':=List.mem_of_getElem? hi
    have h3:=hRi r row h1
    have hkill:(({c.pass w ids crows false with base:=0}:Ctx).kill (List.range' k (crows.length-k))).R i=some ((row.ren (λr=>pos r ids 0) false).kill (List.range' k (crows.length-k))):=by
      simp only[Ctx.kill,Ctx.pass]
      rw[if_neg (λe=>by have:=Qfh.1 e;omega),h2];rfl
    obtain⟨row'',g1,g2,g3,g4,g5,g6,gV,g7⟩:=hx.grows.R i _ hkill
    rw[hrow']at g1;cases g1
    obtain⟨s1,s2,s3,s4⟩:=Qjd (λr=>pos r ids 0) false row
    obtain⟨t1,t2,t3,t4⟩:=Q4v (List.range' k (crows.length-k)) (row.ren (λr=>pos r ids 0) false)
    have hi':=(hkget i hik).trans hi
    obtain⟨row3,q1,q2⟩:=k2 i r hi'
    rw[hR',q1]at hrow';cases hrow'
    refine⟨row,h3,g2.trans (t1.trans s1),g3.trans (t2.trans s2),g4.trans (t3.trans s3),g5.trans (t4.trans s4),by simpa [Ctx.kill,Ctx.pass,hi] using g6,by simpa [Ctx.kill,Ctx.pass,hi] using gV,hlt r hm',by rw[hlo r (hlt r hm')];exact q2,by rw[<-hf];simp [bk,hi'],λnv arr ha=> ?_⟩
    have:=g7 (by simpa [Ctx.kill,Ctx.pass,hi] using nv) arr (by simpa [Ctx.kill,Ctx.pass,hi,s2,t2] using ha)
    simpa [Ctx.kill,Ctx.pass,hi,s2,t2] using this
  have blk: ∀i row',c'.R i=some row'-> ¬c'.V i->(∃j s row,ids[j]? =some s/\c.R s=some row/\ ¬c.V s/\c'.ρ i=c.ρ s/\(i<kl->j=i)/\(kl<=i->s∈ids.drop k))\/w.heap.size<=c'.ρ i:=by
    intro i row' h1 nv
    by_cases hik:i<kl
    . have hi':ids[i]? =some ids[i]:=List.getElem?_eq_getElem (by omega)
      obtain⟨row,g1,g2,g3,g4,g5,g6,g7,_⟩:=old i _ row' hik hi' h1
      exact .inl ⟨i,_,row,hi',g1,λe=>nv (g7.2 e),g6,λ_=>rfl,λh=>by omega⟩
    . rcases hx.rho i row' h1 nv with⟨⟨x,hx1⟩,v,e⟩|⟨s,x,hs,hx1,v,e⟩|e
      . have hx2:crows[i]? =some x:=hx1
        have hli:=(List.getElem?_eq_some_iff.1 hx2).1
        have hi':ids[i]? =some ids[i]:=List.getElem?_eq_getElem (by omega)
        obtain⟨row,g1,g2⟩:=hcg i _ hi'
        exact .inl ⟨i,_,row,hi',hRi _ _ g1,by simpa [Ctx.pass,hi'] using v,by simpa [Ctx.pass,hi'] using e,λh=>by omega,λ_=>hgget i _ hi' (by omega)⟩
      . have hx2:crows[s]? =some x:=hx1
        have hli:=(List.getElem?_eq_some_iff.1 hx2).1
        have hi':ids[s]? =some ids[s]:=List.getElem?_eq_getElem (by omega)
        obtain⟨row,g1,g2⟩:=hcg s _ hi'
        have hsk:=(Qfh.1 hs).1
        exact .inl ⟨s,_,row,hi',hRi _ _ g1,by simpa [Ctx.pass,hi'] using v,by simpa [Ctx.pass,hi'] using e,λh=>by omega,λ_=>hgget s _ hi' (by omega)⟩
      . exact .inr e
  have new: ∀i row',kl<=i->c'.R i=some row'->i<rows'.length/\R2.getD (R.length+(i-kl)) none=some (row'.ren f false)/\f i=R.length+(i-kl):=by
    intro i row' hi hrow'
    have h1:rows'[i]? =some row':=by rw[<-hR'];exact hrow'
    have h2:=(List.getElem?_eq_some_iff.1 h1).1
    refine⟨h2,by rw[hhi i hi h2,h1];rfl,?_⟩
    rw[<-hf]
    simp only[bk]
    rw[List.getElem?_eq_none (by omega),hkl]
  have hren:Z5k (λ_=>True) f false c' (c.behindK c' kl R.length R2):=by
    refine⟨λi row' _ hrow'=> ?_,(λh=>by cases h),Nat.le_refl _⟩
    obtain⟨s1,s2,s3,s4⟩:=Qjd f false row'
    by_cases hi:i<kl
    . have hi':ids[i]? =some ids[i]:=List.getElem?_eq_getElem (by omega)
      obtain⟨row,g1,g2,g3,g4,g5,g6,g7,g8,g9,g10,_⟩:=old i _ row' hi hi' hrow'
      rw[g10]
      exact⟨_,g9,s1,s2,s3,s4,by simp only[Ctx.behindK];rw[if_neg (by omega),g6],by simp only[Ctx.behindK];rw[if_neg (by omega)];exact g7.symm⟩
    . obtain⟨h1,h2,h3⟩:=new i row' (by omega) hrow'
      rw[h3]
      have hc:R.length<=R.length+(i-kl)/\R.length+(i-kl)<R2.length:=by omega
      have he:kl+(R.length+(i-kl)-R.length)=i:=by omega
      exact⟨_,h2,s1,s2,s3,s4,by simp only[Ctx.behindK];rw[if_pos hc,he],by simp only[Ctx.behindK];rw[if_pos hc,he]⟩
  have hfr:Fr (λb=> ∃r x,c.R r=some x/\ ¬c.V r/\r∈ids/\c.ρ r=b) w w':=hx.fr.mono λb _ ⟨i,x,h1,h2,h3⟩=>by
    have h1':crows[i]? =some x:=h1
    have hi:i<ids.length:=by have:=(List.getElem?_eq_some_iff.1 h1').1;omega
    have hi':ids[i]? =some ids[i]:=List.getElem?_eq_getElem hi
    obtain⟨row,g1,g2⟩:=hcg i _ hi'
    exact⟨_,row,hRi _ row g1,by simpa [Ctx.pass,hi'] using h2,List.mem_of_getElem? hi',by simpa [Ctx.pass,hi'] using h3⟩
  have rest: ∀r,r∉ids->r<R.length->R2.getD r none=(R.getD r none).map (Row.kill (ids.drop k)):=λr h1 h2=>by
    rw[hlo r h2,k3 r (λe=>h1 (List.mem_of_mem_take e)),Qoi,Nat.zero_add,if_neg (λe=>h1 (List.mem_of_mem_drop (Q39.1 e)))]
  have gone: ∀r,r∈ids.drop k->R2.getD r none=none:=λr h=>by
    rw[hlo r (hlt r (List.mem_of_mem_drop h)),k3 r (λe=>hdisj r e h),Qoi,Nat.zero_add,if_pos (Q39.2 h)]
  have inv: ∀r x,(c.behindK c' kl R.length R2).R r=some x->(∃i row',c'.R i=some row'/\x=row'.ren f false/\(c.behindK c' kl R.length R2).ρ r=c'.ρ i/\((c.behindK c' kl R.length R2).V r↔c'.V i)/\(i<kl/\ids[i]? =some r/\(c.behindK c' kl R.length R2).ρ r=c.ρ r/\((c.behindK c' kl R.length R2).V r↔c.V r)\/R.length<=r/\kl<=i/\r=R.length+(i-kl)))\/
      (∃row,c.R r=some row/\x=row.kill (ids.drop k)/\r∉ids/\(c.behindK c' kl R.length R2).ρ r=c.ρ r/\((c.behindK c' kl R.length R2).V r↔c.V r)):=by
    intro r x hx'
    have hx':R2.getD r none=some x:=hx'
    by_cases hm':r∈ids
    . by_cases hg:r∈ids.drop k
      . rw[gone r hg]at hx';cases hx'
      . left
        have hp:=Qh3 hm'
        have hpk:pos r ids 0<kl:=by
          by_cases h:pos r ids 0<kl
          . exact h
          . exact(hg (hgget _ r hp (by omega))).elim
        obtain⟨row3,q1,q2⟩:=k2 _ r ((hkget _ hpk).trans hp)
        have hc':c'.R (pos r ids 0)=some row3:=by rw[hR'];exact q1
        obtain⟨row,g1,g2,g3,g4,g5,g6,g7,g8,g9,g10,_⟩:=old _ r row3 hpk hp hc'
        rw[g9]at hx'
        cases hx'
        have e1:(c.behindK c' kl R.length R2).ρ r=c.ρ r:=by simp only[Ctx.behindK];rw[if_neg (by omega)]
        have e2:(c.behindK c' kl R.length R2).V r↔c.V r:=by simp only[Ctx.behindK];rw[if_neg (by omega)]
        exact⟨_,row3,hc',rfl,by rw[e1,g6],by rw[e2,g7], .inl ⟨hpk,hp,e1,e2⟩⟩
    . by_cases hc:R.length<=r
      . left
        have hr2:r<R2.length:=by
          by_cases h:r<R2.length
          . exact h
          . rw[List.getD,List.getElem?_eq_none (by omega)]at hx';cases hx'
        have hi:kl+(r-R.length)<rows'.length:=by omega
        have hc':c'.R (kl+(r-R.length))=some rows'[kl+(r-R.length)]:=by rw[hR'];exact List.getElem?_eq_getElem hi
        obtain⟨h1,h2,h3⟩:=new _ _ (by omega) hc'
        rw[show R.length+(kl+(r-R.length)-kl)=r by omega]at h2
        rw[h2]at hx'
        cases hx'
        exact⟨_,_,hc',rfl,by simp only[Ctx.behindK];rw[if_pos ⟨hc,hr2⟩],by simp only[Ctx.behindK];rw[if_pos ⟨hc,hr2⟩], .inr ⟨hc,by omega,by omega⟩⟩
      . right
        rw[rest r hm' (by omega)]at hx'
        simp only[Option.map_eq_some_iff]at hx'
        obtain⟨row,h1,h2⟩:=hx'
        exact⟨row,hRi r row h1,h2.symm,hm',by simp only[Ctx.behindK];rw[if_neg (by omega)],by simp only[Ctx.behindK];rw[if_neg (by omega)]⟩
  have apart: ∀r row i row',c.R r=some row->r∉ids-> ¬c.V r->c'.R i=some row'-> ¬c'.V i->c'.ρ i≠c.ρ r:=λr row i row' h1 h2 h3 h4 h5 e=>by
    rcases blk i row' h4 h5 with⟨j,s,row2,q1,q2,q3,q4,_⟩|q
    . have:=hm.inj s r row2 row q2 h1 q3 h3 (by rw[<-q4,e])
      subst this
      exact h2 (List.mem_of_getElem? q1)
    . have:=hm.lt h1 h3;omega
  have hgrow:Q3s (c.kill (ids.drop k)) w (c.behindK c' kl R.length R2) w':=by
    refine⟨rfl,hx.grows.top,λb hbI=> ?_,λr x hr=> ?_⟩
    . have h1:(({c.pass w ids crows false with base:=0}:Ctx).kill (List.range' k (crows.length-k))).I b:= .inl hbI
      exact⟨(hx.grows.I b h1).1,(hx.grows.I b h1).2⟩
    . obtain⟨hng,row,hrow,rfl⟩:=Q3r hr
      have hng:r∉ids.drop k:=λe=>by rw[Q39.2 e]at hng;cases hng
      obtain⟨u1,u2,u3,u4⟩:=Q4v (ids.drop k) row
      by_cases hm':r∈ids
      . have hp:=Qh3 hm'
        have hpk:pos r ids 0<kl:=by
          by_cases h:pos r ids 0<kl
          . exact h
          . exact(hng (hgget _ r hp (by omega))).elim
        obtain⟨row3,q1,q2⟩:=k2 _ r ((hkget _ hpk).trans hp)
        have hc':c'.R (pos r ids 0)=some row3:=by rw[hR'];exact q1
        obtain⟨row0,g1,g2,g3,g4,g5,g6,g7,g8,g9,g10,g11⟩:=old _ r row3 hpk hp hc'
        rw[hrow]at g1;cases g1
        obtain⟨s1,s2,s3,s4⟩:=Qjd f false row3
        refine⟨_,g9,s1.trans (g2.trans u1.symm),s2.trans (g3.trans u2.symm),s3.trans (g4.trans u3.symm),s4.trans (g5.trans u4.symm),by simp only[Ctx.behindK];rw[if_neg (by omega)];rfl,by simp only[Ctx.behindK];rw[if_neg (by omega)];rfl,λnv arr ha=> ?_⟩
        rw[u2]at ha⊢
        exact g11 nv arr ha
      . have hrl:r<R.length:=by
          by_cases h:r<R.length
          . exact h
          . rw[hR,List.getD,List.getElem?_eq_none (by omega)]at hrow;cases hrow
        refine⟨row.kill (ids.drop k),?_,rfl,rfl,rfl,rfl,by simp only[Ctx.behindK];rw[if_neg (by omega)];rfl,by simp only[Ctx.behindK];rw[if_neg (by omega)];rfl,λnv arr ha=>⟨arr,?_,rfl⟩⟩
        . show R2.getD r none=_
          rw[rest r hm' hrl,<-hR,hrow];rfl
        . have nv: ¬c.V r:=nv
          show w'.heap[c.ρ r]? =_
          rw[hfr.heap _ (hm.lt hrow nv) fun⟨s,x,h1,h2,h3,h4⟩=>hm' (by rw[<-hm.inj s r x row h1 hrow h2 nv h4];exact h3)]
          exact ha
  refine⟨hren,⟨λr x hx'=> ?_,λr s x y hr hs v1 v2 he=> ?_,λb hbI=>⟨(hx.mem.imm b hbI).1,λr x hr v=> ?_⟩,hx.mem.top⟩,hgrow,hfr.mono λb _ ⟨r,x,h1,h2,_,h4⟩=>⟨r,x,h1,h2,h4⟩,λb hbI=> ?_,λr x hr v=> ?_⟩
  . rcases inv r x hx' with⟨i,row',h1,rfl,h3,h4,_⟩|⟨row,h1,rfl,h2,h3,h4⟩
    . exact Zil hren (flat:=False) (.inl λb hb=>hb) h3 h4 (λ_ _ _ _ _=>trivial) (λe=>e.elim) (hx.mem.row i row' h1)
    . have hk:=Zlz (ks:=ids.drop k) (hm.row r row h1)
      exact Q3 hgrow h3 h4 (λnv=>hfr.heap _ (hm.lt h1 nv) fun⟨s,x',g1,g2,g3,g4⟩=>h2 (by rw[<-hm.inj s r x' row g1 h1 g2 nv g4];exact g3)) hk
  . rcases inv r x hr with⟨i,x',h1,_,h3,h4,h5⟩|⟨row,h1,_,h2,h3,h4⟩<;>rcases inv s y hs with⟨j,y',g1,_,g3,g4,g5⟩|⟨row2,g1,_,g2,g3,g4⟩
    . have:i=j:=hx.mem.inj i j x' y' h1 g1 (λe=>v1 (h4.2 e)) (λe=>v2 (g4.2 e)) (by rw[<-h3,<-g3];exact he)
      subst this
      rcases h5 with⟨q0,q1,_⟩|⟨_,q1,q2⟩<;>rcases g5 with⟨p0,p1,_⟩|⟨_,p1,p2⟩
      . rw[q1]at p1;exact Option.some.inj p1
      . omega
      . omega
      . omega
    . exact(apart s row2 i x' g1 g2 (λe=>v2 (g4.2 e)) h1 (λe=>v1 (h4.2 e)) (by rw[<-h3,<-g3];exact he)).elim
    . exact(apart r row j y' h1 h2 (λe=>v1 (h4.2 e)) g1 (λe=>v2 (g4.2 e)) (by rw[<-h3,<-g3];exact he.symm)).elim
    . exact hm.inj r s row row2 h1 g1 (λe=>v1 (h4.2 e)) (λe=>v2 (g4.2 e)) (by rw[<-h3,<-g3];exact he)
  . rcases inv r x hr with⟨i,x',h1,_,h3,h4,h5⟩|⟨row,h1,_,h2,h3,h4⟩
    . rw[h3];exact(hx.mem.imm b hbI).2 i x' h1 (λe=>v (h4.2 e))
    . have nv: ¬c.V r:=λe=>v (h4.2 e)
      rw[h3]
      rcases hx.imm b hbI with q|⟨s,z,q1,q2,q3,q4⟩|q
      . rcases q with q|⟨q,_⟩
        . exact(hm.imm b q).2 r row h1 nv
        . cases q
      . intro e
        have hz:crows[s]? =some z:=q2
        have hli:=(List.getElem?_eq_some_iff.1 hz).1
        have hi':ids[s]? =some ids[s]:=List.getElem?_eq_getElem (by omega)
        obtain⟨row2,g1,g2⟩:=hcg s _ hi'
        have:=hm.inj _ r row2 row (hRi _ _ g1) h1 (by simpa [Ctx.pass,hi'] using q3) nv (by rw[e];simpa [Ctx.pass,hi'] using q4)
        exact h2 (by rw[<-this];exact List.mem_of_getElem? hi')
      . have:=hm.lt h1 nv;omega
  . rcases hx.imm b hbI with q|⟨s,z,q1,q2,q3,q4⟩|q
    . rcases q with q|⟨q,_⟩
      . exact .inl q
      . cases q
    . have hz:crows[s]? =some z:=q2
      have hli:=(List.getElem?_eq_some_iff.1 hz).1
      have hi':ids[s]? =some ids[s]:=List.getElem?_eq_getElem (by omega)
      obtain⟨row2,g1,g2⟩:=hcg s _ hi'
      have hsk:=(Qfh.1 q1).1
      exact .inr (.inl ⟨_,row2,Q39.2 (hgget s _ hi' (by omega)),hRi _ _ g1,by simpa [Ctx.pass,hi'] using q3,by simpa [Ctx.pass,hi'] using q4⟩)
    . exact .inr (.inr q)
  . rcases inv r x hr with⟨i,x',h1,_,h3,h4,h5⟩|⟨row,h1,_,h2,h3,h4⟩
    . rcases h5 with⟨q0,q1,q2,q3⟩|⟨q0,q1,q2⟩
      . obtain⟨row,g1,_⟩:=old i r x' q0 q1 h1
        exact .inl ⟨⟨row,g1⟩,λe=>v (q3.2 e),q2⟩
      . rcases blk i x' h1 (λe=>v (h4.2 e)) with⟨j,s,row2,p1,p2,p3,p4,_,p5⟩|p
        . exact .inr (.inl ⟨s,row2,Q39.2 (p5 q1),p2,p3,by rw[h3];exact p4⟩)
        . exact .inr (.inr (by rw[h3];exact p))
    . exact .inl ⟨⟨row,h1⟩,λe=>v (h4.2 e),h3⟩
def CallC(P:Program)(f:FuncId)(args:List Operand)(ev:Operand->D)(R:Rows)(ks:List Nat)(val:D)(R':Rows):Prop:=
 ∀ (c:Ctx) (w:World) (ρ:Operand->Value),Mem c w->c.base<=w.heap.size->(∀r,c.R r=R.getD r none)->(∀y∈args,Rep c w (ev y) (ρ y))->
   ∀K':Value->World->Prop,(∀v w' c',NxtK ks c w c' w'->(∀r,c'.R r=R'.getD r none)->Rep c' w' val v->K' v w')->Z4n P c.I f (args.map ρ) w λe w'=> ∃v,e= .returned v/\K' v w'
theorem Z2m{P:Program}{G:List Q0d}{M:Nat}(hG:Q7j P G){f:FuncId}{k:Nat}{args:List Operand}{ev:Operand->D}{R:Rows}{K:List Nat->D->Rows->Prop}
    (hgo:Qc9 G f=some k) (h:Zhi G M f k (args.map ev) R K): ∃ks val R' x,K ks val R'/\Ql4 G f=some x/\(x.refs≠[])/\(∀j,memB j ks=true->M<=j)/\CallC P f args ev R ks val R':=by
  unfold Zhi at h
  split at h
  . rename_i x hx
    have hgn:x.gone=some k:=by simpa [Qc9,hx] using hgo
    obtain⟨hok,hf⟩:=Qkr hG hx
    split at h
    . rename_i az crows has hcrows
      simp only[Q08,aE]at h
      obtain⟨⟨⟨⟨hv,hrf⟩,h1,h2⟩,h3,h4⟩,h⟩:=h
      generalize hids:Qe7 R x.refs (args.map ev)=ids at*
      have hsub:=Qqa.1 h1
      have hcl:=Qqa.1 h2
      have hnd:=Qi6.1 h3
      have hvals:Q5r x.refs (args.map ev)=[]:=by
        revert hv
        cases Q5r x.refs (args.map ev)<;>simp
      have hrefs:x.refs≠[]:=λe=>by rw[e]at hrf;simp at hrf
      have main: ∀res rows',Zgs R (ids.take k) (ids.drop k) res rows' K->Qew P x.f k az crows res rows'->
          ∃ks val R' y,K ks val R'/\Ql4 G f=some y/\(y.refs≠[])/\(∀j,memB j ks=true->M<=j)/\CallC P f args ev R ks val R':=by
        intro res rows' hK hA
        simp only[Zgs,Q08,D.force_iff,Q1s]at hK
        obtain⟨hle,hK⟩:=hK
        have hle:=lE hle
        refine⟨_,_,_,x,hK,hx,hrefs,λj hj=>lE (List.all_eq_true.1 h4 j (Q39.1 hj)),λc w ρ hm hb hR hev K' hK'=> ?_⟩
        have hRi: ∀r row,r∈ids->R.getD r none=some row->c.R r=some row:=λr row _ e=>by rw[hR];exact e
        have hAg:Q7p c R:=λr row row' g1 g2=>by rw[hR,g2]at g1;exact(Option.some.inj g1).symm
        have hn:=Qq8 (len:=false) (w:=w) hRi hcrows
        have hargs:=Qq2 (len:=false) (ρ:=ρ) hm hAg hn has (λe=>(e hvals).elim) (λr hr=>by rw[hvals]at hr;cases hr) hsub hev
        have hcall:=hA _ w _ (Zcz (Zch (len:=false) hm hRi hnd hcl hcrows)) rfl (λr=>rfl) (Qs5 hargs)
        rw[hf]at hcall
        refine hcall.mono (λb hb=> .inl hb) (λe w' hpost=> ?_)
        obtain⟨v,c',he,hnx,hR',hres⟩:=hpost
        have:=Z7b (k:=k) hm hR hnd hcrows hle hnx hR' rfl
        exact⟨v,he,hK' v w' _ this.2 (λr=>rfl) (Zae this.1 (flat:=False) (.inl λb hb=>hb) (λ_=>trivial) (λe=>e.elim) hres)⟩
      split at h
      . rename_i α v res rows' hm
        exact main _ _ (h v rfl) (hok.kabs k hgn _ _ _ _ _ _ hm)
      . rename_i p α v res rows' hm
        exact main _ _ (h.2 v rfl) (hok.kabsW k hgn _ _ _ _ _ _ _ hm h.1)
      . exact h.elim
    . exact h.elim
  . exact h.elim
theorem Zkq{P:Program}{G:List Q0d}{M:Nat}(hG:Q7j P G){f:FuncId}(hy:f<YB){dst:Option Tmp}{k:Nat}{args:Array Operand}{tys:Array TypeId}{type:TypeId}{pos':String}{after:Array Edge}{guard:Option (Nat×Bool)}{ev:Operand->D}{R:Rows}{K:List Nat->D->Rows->Prop}
   (hgo:Qc9 G f=some k) (h:Zhi G M f k (args.toList.map ev) R K): ∃ks val R' x,K ks val R'/\Ql4 G f=some x/\(x.refs≠[])/\(∀j,memB j ks=true->M<=j)/\OpK P ⟨dst, .call ⟨.value (.func f),args,tys⟩,type,pos',after,guard⟩ ev R ks val R':=by
 obtain⟨ks,val,R',x,h1,h2,h3,h4,h5⟩:=Z2m hG hgo h
 obtain⟨hok,hf⟩:=Qkr hG h2
 refine⟨ks,val,R',x,h1,h2,h3,h4,λc w a hm hb hR hev K' Q hK'=> ?_⟩
 subst hf
 exact Zcg hok rfl hy ((h5 c w a.eval hm hb hR (λy hy=>hev y (by simp [Op.operands,Call.operands];exact .inr (by simpa using hy))) (λv w'=>K' (a.put dst v) w') λv w' c'=>hK' v w' c').1 hy)
def Ctx.only(c:Ctx)(ks:List Nat):Ctx:={c with R:=λr=>if memB r ks=true then(match c.R r with|some row=>if row.box=true then none else some row|none=>none) else none}
theorem Qq0{c:Ctx}{ks:List Nat}{r:Nat}{x:Row}(h:(c.only ks).R r=some x):r∈ks/\c.R r=some x/\x.box=false:=by
  simp only[Ctx.only]at h
  split at h
  . rename_i hm
    split at h
    . rename_i row hr
      split at h
      . cases h
      . rename_i hb
        cases h
        exact⟨Q39.1 hm,hr,by simpa using hb⟩
    . cases h
  . cases h
theorem yp{c:Ctx}{ks:List Nat}{r:Nat}{x:Row}(hm:r∈ks)(hr:c.R r=some x)(hb:x.box=false):(c.only ks).R r=some x:=by
 simp [Ctx.only,Q39.2 hm,hr,hb]
theorem qT{c:Ctx}{w:World}(hm:Mem c w)(ks:List Nat):Mem (c.only ks) w:=by
 refine⟨λr x hr=> ?_,λr s x y hr hs=> ?_,λb hb=>⟨(hm.imm b hb).1,λr x hr v=> ?_⟩,hm.top⟩
 . obtain⟨_,h1,h2⟩:=Qq0 hr
   rcases hm.row r x h1 with h|⟨h0,arr,ha,hs,hx⟩
   . exact .inl h
   . refine .inr ⟨h0,arr,ha,hs,?_⟩
     rw[if_neg (by rw[h2];simp)]at hx⊢
     exact hx
 . exact hm.inj r s x y (Qq0 hr).2.1 (Qq0 hs).2.1
 . exact(hm.imm b hb).2 r x (Qq0 hr).2.1 v
theorem Zh6{c:Ctx}{w:World}{R:Rows}{ks:List Nat}{d d':D}{v:Value}(h:Zbo R d=some d')(hl: ∀r∈Q8x d,r∈ks)(hr:CRep c w d v):CRep (c.only ks) w d v:=by
 cases d<;>simp only[Zbo]at h<;>try(cases h;done)
 case all r=>
   obtain⟨row,g1,g2,g3⟩:=hr
   exact⟨row,yp (hl r (by simp [Q8x])) g1 g2,g2,g3⟩
 case own r o n=>
   obtain⟨row,g1,g2,g3,g4⟩:=hr
   exact⟨row,yp (hl r (by simp [Q8x])) g1 g2,g2,g3,g4⟩
 all_goals exact hr
theorem Zfh{c:Ctx}{w:World}{R:Rows}{ks:List Nat}: ∀{ds ds':List D} {vs:List Value},Zk8 R ds=some ds'->(∀r∈Qdj ds,r∈ks)->Q3v c w ds vs->Q3v (c.only ks) w ds vs
 |[],_,[],_,_,_=>trivial
 | d ::ds,ds',v::vs,h,hl,hr=>by
   simp only[Zk8]at h
   split at h
   . rename_i x xs h1 h2
     exact⟨Zh6 h1 (λr e=>hl r (by simp [Qdj,e])) hr.1,Zfh h2 (λr e=>hl r (by simp [Qdj,e])) hr.2⟩
   . cases h
 |[],_,_::_,_,_,h=>h.elim
 |_::_,_,[],_,_,h=>h.elim
theorem xT{c:Ctx}{w:World}{R:Rows}{ks:List Nat}{d d':D}{v:Value}(h:conv R d=some d')(hl: ∀r∈Z9o d,r∈ks)(hr:Rep c w d v):Rep (c.only ks) w d v:=by
 cases d with
 | agg cs=>
   simp only[conv,Option.map_eq_some_iff]at h
   obtain⟨xs,h1,_⟩:=h
   obtain⟨vs,hv,hx⟩:=hr
   exact⟨vs,hv,Zfh h1 hl hx⟩
 |tup ds=>simp [conv,Zbo]at h
 |dead=>trivial
 | _=>
   simp only[conv]at h
   simp only[Rep,VRep]at hr⊢
   exact Zh6 h hl hr
theorem Z8r{R:Rows}{f:Nat->Nat}{ev:Operand->D}: ∀{xs:List Operand} {az:List D},Qog R f [] (xs.map ev)=some az-> ∀x∈xs,∃y,conv R (ev x)=some y
 |[],_,_,x,hx=>by simp at hx
 | y ::xs,az,h,x,hx=>by
   simp only[List.map_cons,Qog]at h
   split at h
   . rename_i z zs h1 h2
     simp only[List.mem_cons]at hx
     rcases hx with rfl|hx
     . exact⟨_,h1⟩
     . exact Z8r h2 x hx
   . cases h
theorem Z7o{ev:Operand->D}{r:Nat}: ∀{xs:List Operand} {x:Operand},x∈xs->r∈Z9o (ev x)->r∈Q5r [] (xs.map ev)
 | y::xs,x,hx,hr=>by
   simp only[List.map_cons,Q5r,List.mem_append]
   simp only[List.mem_cons]at hx
   rcases hx with rfl|hx
   . exact .inl hr
   . exact .inr (Z7o hx hr)
theorem Qp4{r:Nat}: ∀{l ids:List Nat},r∈addB ids l->r∈ids\/r∈l
  |[],ids,h=> .inl h
  | x ::l,ids,h=>by
    simp only[addB]at h
    split at h
    . rcases Qp4 h with h|h
      . exact .inl h
      . exact .inr (by simp [h])
    . rcases Qp4 h with h|h
      . simp only[List.mem_append,List.mem_singleton]at h
        rcases h with h|h
        . exact .inl h
        . exact .inr (by simp [h])
      . exact .inr (by simp [h])
theorem vp{c:Ctx}{w:World}{d:D}{v:Value}(h:Rep c w d v):Rep {c with base:=0} w d v:=by
 cases d with
 |tup ds=>obtain⟨vs,hv,hx⟩:=h;exact⟨vs,hv,Qs5 hx⟩
 |dead=>trivial
 |_=>exact Rep.ofV (Z91 (Rep.toV (λds e=>by cases e) (λe=>by cases e) h))
theorem zT{P:Program}{G:List Q0d}{M:Nat}(hG:Q7j P G){dst:Option Tmp}{f:FuncId}{args:Array Operand}{tys:Array TypeId}{type:TypeId}{pos':String}{after:Array Edge}{guard:Option (Nat×Bool)}{ev:Operand->D}{R:Rows}{K:List Nat->D->Rows->Prop}
    (hgo:Qc9 G f=none) (h:callF G M f (args.toList.map ev) R K): ∃ks val R' x,K ks val R'/\Ql4 G f=some x/\(∀j,memB j ks=true->M<=j)/\OpK P ⟨dst, .call ⟨.value (.func f),args,tys⟩,type,pos',after,guard⟩ ev R ks val R':=by
  unfold callF at h
  split at h
  . rename_i x hx
    have hgn:x.gone=none:=by simpa [Qc9,hx] using hgo
    obtain⟨hok,hf⟩:=Qkr hG hx
    split at h
    . rename_i az crows has hcrows
      simp only[Q08,aE]at h
      obtain⟨⟨⟨hrf,hbx⟩,h3,hsub,h4⟩,h⟩:=h
      have hks0: ∀r,r∈addB [] (Q5r [] (args.toList.map ev))->r∈Q5r [] (args.toList.map ev):=λr hr=>by
        rcases Qp4 hr with h|h
        . cases h
        . exact h
      generalize hids:addB [] (Q5r [] (args.toList.map ev))=ids at*
      have hnd:=Qi6.1 h3
      have hsub:=Qqa.1 hsub
      have main : ∀res rows',Zgs R [] ids res rows' K->Q4l P x.f az [] res rows'->
          ∃ks val R' y,K ks val R'/\Ql4 G f=some y/\(∀j,memB j ks=true->M<=j)/\OpK P ⟨dst, .call ⟨.value (.func f),args,tys⟩,type,pos',after,guard⟩ ev R ks val R':=by
        intro res rows' hK hA
        simp only[Zgs,Q08,D.force_iff,Q1s]at hK
        obtain⟨_,hK⟩:=hK
        refine⟨_,_,_,x,hK,hx,λj hj=>lE (List.all_eq_true.1 h4 j (Q39.1 hj)),λc w a hm hb hR hev K' Q hK'=> ?_⟩
        have hAg:Q7p (c.only ids) R:=λr row row' g1 g2=>by
          have:=(Qq0 g1).2.1
          rw[hR,g2]at this;exact(Option.some.inj this).symm
        have hmo:=qT hm ids
        have hn:=Qq8 (c:=c.only ids) (R:=R) (ids:=[]) (crows:=[]) (len:=true) (w:=w) (λr row e=>by cases e) rfl
        have hev': ∀y∈args.toList,Rep (c.only ids) w (ev y) (a.eval y):=λy hy=>by
          obtain⟨z,hz⟩:=Z8r has y hy
          exact xT hz (λr hr=>hsub r (Z7o hy hr)) (hev y (by simp [Op.operands,Call.operands];exact .inr (by simpa using hy)))
        rw[Z29 (λr=>r) (λr=>pos r [] 0)]at has
        have hargs:=Qq2 (len:=true) (ρ:=a.eval) hmo hAg hn has (λ_=>rfl) (λr _ e=>by cases e) (λr e=>by rw[Qwq]at e;cases e) hev'
        have hcall:=hA _ w _ (Zch (R:=R) (len:=true) hmo (λr row e=>by cases e) (by simp) (λr e=>by simp [Qk]at e) rfl) rfl (λr=>rfl) hargs
        refine Zcg hok hf (hok.real hgn) (hcall.mono λe w' hpost=> ?_)
        obtain⟨v,c',he,hnx,hR',hres⟩:=hpost
        have nor: ∀r x,((c.only ids).pass w [] [] true).R r=some x->False:=λr x h=>by simp [Ctx.pass]at h
        obtain⟨hcl,hcg⟩:=Qax hcrows
        have hxK:NxtK (List.range' 0 (crows.length-0)) {c.pass w ids crows false with base:=0} w {c' with base:=0} w':=by
          refine⟨Zcz hnx.mem,⟨rfl,hnx.grows.top,λb hbI=> ?_,λr x hr=> ?_⟩,hnx.fr.mono λb _ ⟨r,x,h1,_⟩=>(nor r x h1).elim,λb hbI=> ?_,λr x hr hv=> ?_⟩
          . have:c.I b:=by
              rcases hbI with h|⟨h,_⟩
              . exact h
              . cases h
            exact⟨(hnx.grows.I b (.inl this)).1,(hnx.grows.I b (.inl this)).2⟩
          . obtain⟨h1,row,h2,_⟩:=Q3r hr
            have h2':crows[r]? =some row:=h2
            have:=(List.getElem?_eq_some_iff.1 h2').1
            rw[Qfh.2 (by omega)]at h1;cases h1
          . rcases hnx.imm b hbI with h|h
            . rcases h with h|⟨_,r,row,g1,g2,g3,_,g5⟩
              . exact .inl (.inl h)
              . obtain⟨k1,k2,k3⟩:=Qq0 g1
                have hp:=Qh3 k1
                obtain⟨row2,q1,q2⟩:=hcg _ r hp
                have hl:=(List.getElem?_eq_some_iff.1 q2).1
                exact .inr (.inl ⟨_,_,Qfh.2 (by omega),q2,by simpa [Ctx.pass,Ctx.only,hp] using g2,by simpa [Ctx.pass,Ctx.only,hp] using g5⟩)
            . exact .inr (.inr h)
          . rcases hnx.rho r x hr hv with⟨⟨y,h1⟩,_⟩|h
            . exact(nor r y h1).elim
            . exact .inr (.inr h)
        have:=Z7b (k:=0) (c':={c' with base:=0}) hm hR hnd hcrows (by simp) hxK hR' rfl
        simp only[List.take_zero,List.drop_zero]at this
        exact⟨v,he,hK' v w' _ this.2 (λr=>rfl) (Zae this.1 (flat:=False) (.inl λb hb=>hb) (λ_=>trivial) (λe=>e.elim) (vp hres))⟩
      split at h
      . rename_i α v res rows' hm
        exact main _ _ (h v rfl) (hok.abs hgn _ _ _ _ _ _ hm).1
      . rename_i p α v res rows' hm
        exact main _ _ (h.2 v rfl) (hok.absW hgn _ _ _ _ _ _ _ hm h.1).1
      . exact h.elim
    . exact h.elim
  . exact h.elim
