import Derived.Test.YtmalmklaonainaaGreatReplayRefusesMake
set_option linter.all false
namespace Go.GD
open Go
theorem Zb8{R:Rows}{r:Nat}{row row':Row}(h:R.getD r none=some row)(s:Nat):(R.set r (some row')).getD s none=if s=r then some row' else R.getD s none:=by
 have hlt:r<R.length:=by
   by_cases hl:r<R.length
   . exact hl
   . rw[List.getD,List.getElem?_eq_none (by omega)]at h;cases h
 by_cases e:s=r
 . subst e
   simp [List.getD,hlt]
 . simp [List.getD,e,List.getElem?_set_ne (Ne.symm e)]
theorem Zlr{P:Program}{t:TypeId}{n:Nat}(hcells:P.cellsOf t=n)(h0:0<n){R:Rows}{r i off:Nat}{box:Bool}{ty:TypeId}{sz:Nat}{es es':Els}{d:D}
    (hR:R.getD r none=some ⟨box,ty,sz,es⟩) (hv:d.isVal=true) (hn:d.cells.length=n) (hle:off+n<=sz) (hp:box=false->d.cells.all D.plain=true)
    {c:Ctx} {w:World} {v:Value} (hm:Mem c w) (hA: ∀r,c.R r=R.getD r none) (hV: ¬c.V r) (hi:i<es.l.length) (hes:es'.l=es.l.set i (Q2i (es.l.getD i []) off d.cells)) (hbx:box=true->es'= .gen [Q2i (es.get i) off d.cells]) (hd:Rep c w d v):
    Wrote P (Instr.storeAt t (.pointer (some ⟨c.ρ r,i*sz+off,none⟩)) v) w c (R.set r (some ⟨box,ty,sz,es'⟩)):=by
  have g1:c.R r=some ⟨box,ty,sz,es⟩:=by rw[hA];exact hR
  have hx:=Rep.cells hv hd
  obtain⟨old,ho,hs,hb⟩:=hm.real g1 hV
  have hvn:v.cells.size=n:=by rw[<-hn,hx.length];simp
  simp only at ho hs hb
  have fin: ∀row':Row,row'=⟨box,ty,sz,es'⟩->i*sz+off+n<=old.size->
      (∀c' w',Q3s c w c' w'->if row'.box then∃e,row'.es= .gen [e]/\e.length=row'.sz/\(Q44 old.toList (i*sz+off) v.cells.toList).toArray.size=row'.sz/\Q4g c' w' e (Q44 old.toList (i*sz+off) v.cells.toList).toArray 0
        else Q1r c'.I w' row'.es.l (Q44 old.toList (i*sz+off) v.cells.toList).toArray 0 row'.sz)->Wrote P (Instr.storeAt t (.pointer (some ⟨c.ρ r,i*sz+off,none⟩)) v) w c (R.set r (some row')):=by
    intro row' hrow hsz hnew
    have hrun:=Zhq (P:=P) hcells h0 (o:=i*sz+off) ho hvn hsz hx.one
    have hs2:(Q44 old.toList (i*sz+off) v.cells.toList).toArray.size=old.size:=by simp [Qe6]
    have hw:=hm.write (row':=row') g1 hV ho hs2 (by rw[hrow]) (by rw[hrow]) (by rw[hrow]) (by rw[hrow];simp only[hes,List.length_set])
    refine⟨r,row',_,_,hrun,rfl,⟨_,g1⟩,hV,hw.1,hw.2 ⟨by rw[hrow];exact hs,hnew _ _ hw.1⟩,λs=> ?_⟩
    rw[Zb8 hR]
    simp only[Ctx.upd]
    split
    . rfl
    . exact hA s
  cases box with
  | true=>
    simp only[if_true]at hb
    obtain⟨e,k1,k2,k3,k4⟩:=hb
    rw[k1]at hi hes hbx
    have hi0:i=0:=by simpa [Els.l] using hi
    subst hi0
    simp only[Nat.zero_mul,Nat.zero_add]at fin⊢
    refine fin _ rfl (by omega) λc' w' hg=> ?_
    simp only[if_true]
    refine⟨Q2i e off d.cells,hbx rfl,by rw[Qcf];exact k2,by simp [Qe6,k3],Qju hg (Zd4 (by simpa using k4) (by omega) (by simp;omega) hx)⟩
  | false=>
    simp only[Bool.false_eq_true,if_false]at hb
    have hroom:=Z3t hb hs hi
    refine fin _ rfl (by omega) λc' w' hg=> ?_
    simp only[Bool.false_eq_true,if_false]
    rw[hes]
    exact Q1m hg.I _ _ _ _ (Qyt (c:=c) (by simpa using hb) hi (by omega) hx (hp rfl) (by simpa using hroom))
theorem xaW{k:IntKind}{e:List D}{off len n:Nat}{v:Int}(h:Qyz k e off len=true)(hl:off+len<=e.length)(hn:n<len):
   Q2i e off (Qxv k ((ints e off len).set n v) 0 len)=Q2i e (off+n) [.int k v]:=by
 apply List.ext_getElem?
 intro j
 rw[Qa4 (by rw[Qmy];omega),Qa4 (by simp;omega)]
 simp only[Qmy,List.length_cons,List.length_nil]
 by_cases h1:off<=j/\j<off+len
 . rw[if_pos h1,Z7a (by omega)]
   by_cases h2:j=off+n
   . subst h2
     rw[if_pos (by omega)]
     simp [List.getD,Z4,show off+n-off=n by omega,hn]
   . rw[if_neg (by omega)]
     have hg:=Z0f (e:=e) (off:=off) (show j-off<len by omega)
     have hi:=D.isInt_eq (Qqf h (show j-off<len by omega))
     rw[show off+(j-off)=j by omega]at hg hi
     have hj:e[j]? =some e[j]:=List.getElem?_eq_getElem (by omega)
     simp only[List.getD,hj,Option.getD_some]at hg hi
     rw[hj]
     simp only[List.getD,Nat.zero_add]
     rw[List.getElem?_set_ne (by omega)]
     rw[hg,<-hi]
 . rw[if_neg h1,if_neg (by omega)]
theorem xaI{e:List D}{off len n:Nat}{v:Bool}(h:Qp6 e off len=true)(hl:off+len<=e.length)(hn:n<len):
   Q2i e off (Qyo ((bools e off len).set n v) 0 len)=Q2i e (off+n) [.bool v]:=by
 apply List.ext_getElem?
 intro j
 rw[Qa4 (by rw[Qma];omega),Qa4 (by simp;omega)]
 simp only[Qma,List.length_cons,List.length_nil]
 by_cases h1:off<=j/\j<off+len
 . rw[if_pos h1,Z7q (by omega)]
   by_cases h2:j=off+n
   . subst h2
     rw[if_pos (by omega)]
     simp [List.getD,Qyj,show off+n-off=n by omega,hn]
   . rw[if_neg (by omega)]
     have hg:=Qv2 (e:=e) (off:=off) (show j-off<len by omega)
     have hi:=D.isBool_eq (Qn7 h (show j-off<len by omega))
     rw[show off+(j-off)=j by omega]at hg hi
     have hj:e[j]? =some e[j]:=List.getElem?_eq_getElem (by omega)
     simp only[List.getD,hj,Option.getD_some]at hg hi
     rw[hj]
     simp only[List.getD,Nat.zero_add]
     rw[List.getElem?_set_ne (by omega)]
     rw[hg,<-hi]
 . rw[if_neg h1,if_neg (by omega)]
theorem Zmr{P:Program}{T:Tab}(hT:Q52 P T){t:TypeId}{x d:D}{R:Rows}{K:D->Rows->Prop}(h:Qp9 T t x d R K):
    ∃R',K .dead R'/\ ∀c w a v,Mem c w->(∀r,c.R r=R.getD r none)->Rep c w x a->Rep c w d v->Wrote P (Instr.storeAt t a v) w c R':=by
  unfold Qp9 at h
  cases ht:T.get t with
  |none=>simp only[ht]at h
  | some ti =>
    simp only[ht]at h
    obtain⟨i0,hi0,hs0,_,hl0,hk0,_⟩:=Qc4 (hT.get ht)
    have hcells:P.cellsOf t=ti.size:=by simp [Program.cellsOf,hi0,hs0]
    cases x<;>simp only at h
    case ptr r i off=>
      cases hR:R.getD r none with
      |none=>simp only[hR]at h
      | some row=>
        obtain⟨box,ty,sz,es⟩:=row
        simp only[hR,Q08,aE]at h
        obtain⟨⟨⟨⟨h0,hv⟩,hn⟩,hle⟩,h⟩:=h
        have h0:0<ti.size:=lE h0
        have hn:=bE hn
        have hle:=lE hle
        have go: ∀es':Els,(box=false->d.cells.all D.plain=true)-> ∀c w a v,Mem c w->(∀r,c.R r=R.getD r none)->Rep c w (.ptr r i off) a->Rep c w d v->
            (∃row:Row,c.R r=some row/\row=⟨box,ty,sz,es⟩/\ ¬c.V r/\i<es.l.length)/\(es'.l=es.l.set i (Q2i (es.l.getD i []) off d.cells)->(box=true->es'= .gen [Q2i (es.get i) off d.cells])->Wrote P (Instr.storeAt t a v) w c (R.set r (some ⟨box,ty,sz,es'⟩))):=by
          intro es' hp c w a v hm hA ha hd
          obtain⟨row,g1,gV,g2,ha⟩:=ha
          have hrow:row=⟨box,ty,sz,es⟩:=by rw[hA,hR]at g1;exact(Option.some.inj g1).symm
          subst hrow
          subst ha
          exact⟨⟨_,g1,rfl,gV,g2⟩,λhe hbx=>Zlr hcells h0 hR hv hn hle hp hm hA gV g2 he hbx hd⟩
        cases box with
        | true=>
          simp only[D.forceL_iff,Q1s]at h
          refine⟨_,h,λc w a v hm hA ha hd=> ?_⟩
          obtain⟨⟨row,g1,hrow,gV,g2⟩,hw⟩:=go (.gen [Q2i (es.get i) off d.cells]) (by simp) c w a v hm hA ha hd
          subst hrow
          obtain⟨old,ho,hs,hb⟩:=hm.real g1 gV
          simp only[if_true]at hb
          obtain⟨e,k1,k2,k3,k4⟩:=hb
          have hget:=Els.get_l es (show i<es.len by simpa using g2)
          refine hw ?_ (λ_=>rfl)
          rw[<-hget,k1]
          rw[k1]at g2
          have hi0:i=0:=by simpa [Els.l] using g2
          subst hi0
          rfl
        | false=>
          simp only[Q1s]at h
          refine⟨_,h.2,λc w a v hm hA ha hd=> ?_⟩
          obtain⟨⟨row,g1,hrow,gV,g2⟩,hw⟩:=go _ (λ_=>h.1) c w a v hm hA ha hd
          exact hw (by rw[Els.set_l,Els.get_l es (show i<es.len by simpa using g2)]) (by simp)
    case pa r i off len k n=>
      cases hR:R.getD r none with
      |none=>simp only[hR]at h
      | some row=>
        obtain⟨box,ty,sz,es⟩:=row
        simp only[hR,Q08,aE]at h
        obtain⟨⟨hbox,hle⟩,h⟩:=h
        subst hbox
        have hle:=lE hle
        have go: ∀(x:D) (xs:List D),x.isVal=true->x.cells=[x]->ti.size=1->(n<len->off+len<=(es.get i).length->Q2i (es.get i) off xs=Q2i (es.get i) (off+n) [x])-> ∀c w a v,Mem c w->(∀r,c.R r=R.getD r none)->Rep c w (.pa r i off len k n) a->Rep c w x v->
            Wrote P (Instr.storeAt t a v) w c (R.set r (some ⟨true,ty,sz, .gen [Q2i (es.get i) off xs]⟩)):=by
          intro x xs hv hc hsz heq c w a v hm hA ha hd
          obtain⟨hn,row,g1,gV,g2,ha⟩:=ha
          have hrow:row=⟨true,ty,sz,es⟩:=by rw[hA,hR]at g1;exact(Option.some.inj g1).symm
          subst hrow
          subst ha
          obtain⟨old,ho,hs,hb⟩:=hm.real g1 gV
          simp only[if_true]at hb
          obtain⟨e,k1,k2,k3,k4⟩:=hb
          simp only at g2
          have hget:=Els.get_l es (show i<es.len by simpa using g2)
          have hlen:(es.get i).length=sz:=by
            rw[<-hget,k1]
            rw[k1]at g2
            have hi0:i=0:=by simpa [Els.l] using g2
            subst hi0
            exact k2
          refine Zlr (off:=off+n) hcells (by omega) hR hv (by rw[hc,hsz];rfl) (by omega) (by simp) hm hA gV g2 ?_ (λ_=>by rw[hc,heq hn (by omega)]) hd
          rw[hget,hc,heq hn (by omega)]
          rw[k1]at g2⊢
          have hi0:i=0:=by simpa [Els.l] using g2
          subst hi0
          rfl
        split at h
        . rename_i j k' k'' v hk
          simp only[decide_eq_true_eq,D.forceL_iff,Q1s]at h
          obtain⟨⟨⟨rfl,rfl⟩,hall⟩,h⟩:=h
          refine⟨_,h,λc w a u hm hA ha hd=>go (.int _ v) _ rfl rfl (Z0q (hT.get ht) (by rw[hk];simp [TK.isAgg])) (λhn hl=>xaW hall hl hn) c w a u hm hA ha hd⟩
        . rename_i v hk
          simp only[D.forceL_iff,Q1s]at h
          obtain⟨hall,h⟩:=h
          refine⟨_,h,λc w a u hm hA ha hd=>go (.bool v) _ rfl rfl (Z0q (hT.get ht) (by rw[hk];simp [TK.isAgg])) (λhn hl=>xaI hall hl hn) c w a u hm hA ha hd⟩
        . exact h.elim
