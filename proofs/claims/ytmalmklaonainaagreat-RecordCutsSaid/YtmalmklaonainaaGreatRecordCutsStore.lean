import Derived.Test.YtmalmklaonainaaGreatRecordCutsMake
set_option linter.all false
namespace Go.GD
open Go
theorem Z9k{R:Rows}{r:Nat}{row row':Row}(h:R.getD r none=some row)(s:Nat):(R.set r (some row')).getD s none=if s=r then some row' else R.getD s none:=by
 have hlt:r<R.length:=by
   by_cases hl:r<R.length
   . exact hl
   . rw[List.getD,List.getElem?_eq_none (by omega)]at h;cases h
 by_cases e:s=r
 . subst e
   simp [List.getD,hlt]
 . simp [List.getD,e,List.getElem?_set_ne (Ne.symm e)]
theorem Zjb{P:Program}{t:TypeId}{n:Nat}(hcells:P.cellsOf t=n)(h0:0<n){R:Rows}{r i off:Nat}{box:Bool}{ty:TypeId}{sz:Nat}{es es':Els}{d:D}
    (hR:R.getD r none=some ⟨box,ty,sz,es⟩) (hv:d.isVal=true) (hn:d.cells.length=n) (hle:off+n<=sz) (hp:box=false->d.cells.all D.plain=true)
    {c:Ctx} {w:World} {v:Value} (hm:Mem c w) (hA: ∀r,c.R r=R.getD r none) (hV: ¬c.V r) (hi:i<es.l.length) (hes:es'.l=es.l.set i (Q2a (es.l.getD i []) off d.cells)) (hbx:box=true->es'= .gen [Q2a (es.get i) off d.cells]) (hd:Rep c w d v):
    Wrote P (Instr.storeAt t (.pointer (some ⟨c.ρ r,i*sz+off,none⟩)) v) w c (R.set r (some ⟨box,ty,sz,es'⟩)):=by
  have g1:c.R r=some ⟨box,ty,sz,es⟩:=by rw[hA];exact hR
  have hx:=Rep.cells hv hd
  obtain⟨old,ho,hs,hb⟩:=hm.real g1 hV
  have hvn:v.cells.size=n:=by rw[<-hn,hx.length];simp
  simp only at ho hs hb
  have fin: ∀row':Row,row'=⟨box,ty,sz,es'⟩->i*sz+off+n<=old.size->
      (∀c' w',Q3j c w c' w'->if row'.box then∃e,row'.es= .gen [e]/\e.length=row'.sz/\(Q3p old.toList (i*sz+off) v.cells.toList).toArray.size=row'.sz/\Q43 c' w' e (Q3p old.toList (i*sz+off) v.cells.toList).toArray 0
        else Q1l c'.I w' row'.es.l (Q3p old.toList (i*sz+off) v.cells.toList).toArray 0 row'.sz)->Wrote P (Instr.storeAt t (.pointer (some ⟨c.ρ r,i*sz+off,none⟩)) v) w c (R.set r (some row')):=by
    intro row' hrow hsz hnew
    have hrun:=Zgr (P:=P) hcells h0 (o:=i*sz+off) ho hvn hsz hx.one
    have hs2:(Q3p old.toList (i*sz+off) v.cells.toList).toArray.size=old.size:=by simp [Qd4]
    have hw:=hm.write (row':=row') g1 hV ho hs2 (by rw[hrow]) (by rw[hrow]) (by rw[hrow]) (by rw[hrow];simp only[hes,List.length_set])
    refine⟨r,row',_,_,hrun,rfl,⟨_,g1⟩,hV,hw.1,hw.2 ⟨by rw[hrow];exact hs,hnew _ _ hw.1⟩,λs=> ?_⟩
    rw[Z9k hR]
    simp only[Ctx.upd]
    split
    . rfl
    . exact hA s
  cases box with
  | true=>
    simp only[if_true]at hb
    obtain⟨e,k1,k2,k3,k4⟩:=hb
    rw[k1]at hi hes hbx
    have hi0:i=0:=by simpa [Els.l] using hi
    subst hi0
    simp only[Nat.zero_mul,Nat.zero_add]at fin⊢
    refine fin _ rfl (by omega) λc' w' hg=> ?_
    simp only[if_true]
    refine⟨Q2a e off d.cells,hbx rfl,by rw[Qb7];exact k2,by simp [Qd4,k3],Qgr hg (Zd1 (by simpa using k4) (by omega) (by simp;omega) hx)⟩
  | false=>
    simp only[Bool.false_eq_true,if_false]at hb
    have hroom:=Qyo hb hs hi
    refine fin _ rfl (by omega) λc' w' hg=> ?_
    simp only[Bool.false_eq_true,if_false]
    rw[hes]
    exact Q1f hg.I _ _ _ _ (Qwk (c:=c) (by simpa using hb) hi (by omega) hx (hp rfl) (by simpa using hroom))
theorem qaN{k:IntKind}{e:List D}{off len n:Nat}{v:Int}(h:Qwc k e off len=true)(hl:off+len<=e.length)(hn:n<len):
   Q2a e off (Qwl k ((ints e off len).set n v) 0 len)=Q2a e (off+n) [.int k v]:=by
 apply List.ext_getElem?
 intro j
 rw[Q9b (by rw[Qkp];omega),Q9b (by simp;omega)]
 simp only[Qkp,List.length_cons,List.length_nil]
 by_cases h1:off<=j/\j<off+len
 . rw[if_pos h1,Z5h (by omega)]
   by_cases h2:j=off+n
   . subst h2
     rw[if_pos (by omega)]
     simp [List.getD,Z12,show off+n-off=n by omega,hn]
   . rw[if_neg (by omega)]
     have hg:=Qyk (e:=e) (off:=off) (show j-off<len by omega)
     have hi:=D.isInt_eq (Qny h (show j-off<len by omega))
     rw[show off+(j-off)=j by omega]at hg hi
     have hj:e[j]? =some e[j]:=List.getElem?_eq_getElem (by omega)
     simp only[List.getD,hj,Option.getD_some]at hg hi
     rw[hj]
     simp only[List.getD,Nat.zero_add]
     rw[List.getElem?_set_ne (by omega)]
     rw[hg,<-hi]
 . rw[if_neg h1,if_neg (by omega)]
theorem zaA{e:List D}{off len n:Nat}{v:Bool}(h:Qmr e off len=true)(hl:off+len<=e.length)(hn:n<len):
   Q2a e off (Qvt ((bools e off len).set n v) 0 len)=Q2a e (off+n) [.bool v]:=by
 apply List.ext_getElem?
 intro j
 rw[Q9b (by rw[Ql6];omega),Q9b (by simp;omega)]
 simp only[Ql6,List.length_cons,List.length_nil]
 by_cases h1:off<=j/\j<off+len
 . rw[if_pos h1,Z4g (by omega)]
   by_cases h2:j=off+n
   . subst h2
     rw[if_pos (by omega)]
     simp [List.getD,Qw9,show off+n-off=n by omega,hn]
   . rw[if_neg (by omega)]
     have hg:=Qs (e:=e) (off:=off) (show j-off<len by omega)
     have hi:=D.isBool_eq (Qkr h (show j-off<len by omega))
     rw[show off+(j-off)=j by omega]at hg hi
     have hj:e[j]? =some e[j]:=List.getElem?_eq_getElem (by omega)
     simp only[List.getD,hj,Option.getD_some]at hg hi
     rw[hj]
     simp only[List.getD,Nat.zero_add]
     rw[List.getElem?_set_ne (by omega)]
     rw[hg,<-hi]
 . rw[if_neg h1,if_neg (by omega)]
theorem Zle{P:Program}{T:Tab}(hT:Q4i P T){t:TypeId}{x d:D}{R:Rows}{K:D->Rows->Prop}(h:Qmt T t x d R K):
    ∃R',K .dead R'/\ ∀c w a v,Mem c w->(∀r,c.R r=R.getD r none)->Rep c w x a->Rep c w d v->Wrote P (Instr.storeAt t a v) w c R':=by
  unfold Qmt at h
  cases ht:T.get t with
  |none=>simp only[ht]at h
  | some ti =>
    simp only[ht]at h
    obtain⟨i0,hi0,hs0,_,hl0,hk0,_⟩:=Qb3 (hT.get ht)
    have hcells:P.cellsOf t=ti.size:=by simp [Program.cellsOf,hi0,hs0]
    cases x<;>simp only at h
    case ptr r i off=>
      cases hR:R.getD r none with
      |none=>simp only[hR]at h
      | some row=>
        obtain⟨box,ty,sz,es⟩:=row
        simp only[hR,Q06,Bool.and_eq_true]at h
        obtain⟨⟨⟨⟨h0,hv⟩,hn⟩,hle⟩,h⟩:=h
        have h0:0<ti.size:=Nat.le_of_ble_eq_true h0
        have hn:=Nat.eq_of_beq_eq_true hn
        have hle:=Nat.le_of_ble_eq_true hle
        have go: ∀es':Els,(box=false->d.cells.all D.plain=true)-> ∀c w a v,Mem c w->(∀r,c.R r=R.getD r none)->Rep c w (.ptr r i off) a->Rep c w d v->
            (∃row:Row,c.R r=some row/\row=⟨box,ty,sz,es⟩/\ ¬c.V r/\i<es.l.length)/\(es'.l=es.l.set i (Q2a (es.l.getD i []) off d.cells)->(box=true->es'= .gen [Q2a (es.get i) off d.cells])->Wrote P (Instr.storeAt t a v) w c (R.set r (some ⟨box,ty,sz,es'⟩))):=by
          intro es' hp c w a v hm hA ha hd
          obtain⟨row,g1,gV,g2,ha⟩:=ha
          have hrow:row=⟨box,ty,sz,es⟩:=by rw[hA,hR]at g1;exact(Option.some.inj g1).symm
          subst hrow
          subst ha
          exact⟨⟨_,g1,rfl,gV,g2⟩,λhe hbx=>Zjb hcells h0 hR hv hn hle hp hm hA gV g2 he hbx hd⟩
        cases box with
        | true=>
          simp only[D.forceL_iff,Q1k]at h
          refine⟨_,h,λc w a v hm hA ha hd=> ?_⟩
          obtain⟨⟨row,g1,hrow,gV,g2⟩,hw⟩:=go (.gen [Q2a (es.get i) off d.cells]) (by simp) c w a v hm hA ha hd
          subst hrow
          obtain⟨old,ho,hs,hb⟩:=hm.real g1 gV
          simp only[if_true]at hb
          obtain⟨e,k1,k2,k3,k4⟩:=hb
          have hget:=Els.get_l es (show i<es.len by simpa using g2)
          refine hw ?_ (λ_=>rfl)
          rw[<-hget,k1]
          rw[k1]at g2
          have hi0:i=0:=by simpa [Els.l] using g2
          subst hi0
          rfl
        | false=>
          simp only[Q1k]at h
          refine⟨_,h.2,λc w a v hm hA ha hd=> ?_⟩
          obtain⟨⟨row,g1,hrow,gV,g2⟩,hw⟩:=go _ (λ_=>h.1) c w a v hm hA ha hd
          exact hw (by rw[Els.set_l,Els.get_l es (show i<es.len by simpa using g2)]) (by simp)
    case pa r i off len k n=>
      cases hR:R.getD r none with
      |none=>simp only[hR]at h
      | some row=>
        obtain⟨box,ty,sz,es⟩:=row
        simp only[hR,Q06,Bool.and_eq_true]at h
        obtain⟨⟨hbox,hle⟩,h⟩:=h
        subst hbox
        have hle:=Nat.le_of_ble_eq_true hle
        have go: ∀(x:D) (xs:List D),x.isVal=true->x.cells=[x]->ti.size=1->(n<len->off+len<=(es.get i).length->Q2a (es.get i) off xs=Q2a (es.get i) (off+n) [x])-> ∀c w a v,Mem c w->(∀r,c.R r=R.getD r none)->Rep c w (.pa r i off len k n) a->Rep c w x v->
            Wrote P (Instr.storeAt t a v) w c (R.set r (some ⟨true,ty,sz, .gen [Q2a (es.get i) off xs]⟩)):=by
          intro x xs hv hc hsz heq c w a v hm hA ha hd
          obtain⟨hn,row,g1,gV,g2,ha⟩:=ha
          have hrow:row=⟨true,ty,sz,es⟩:=by rw[hA,hR]at g1;exact(Option.some.inj g1).symm
          subst hrow
          subst ha
          obtain⟨old,ho,hs,hb⟩:=hm.real g1 gV
          simp only[if_true]at hb
          obtain⟨e,k1,k2,k3,k4⟩:=hb
          simp only at g2
          have hget:=Els.get_l es (show i<es.len by simpa using g2)
          have hlen:(es.get i).length=sz:=by
            rw[<-hget,k1]
            rw[k1]at g2
            have hi0:i=0:=by simpa [Els.l] using g2
            subst hi0
            exact k2
          refine Zjb (off:=off+n) hcells (by omega) hR hv (by rw[hc,hsz];rfl) (by omega) (by simp) hm hA gV g2 ?_ (λ_=>by rw[hc,heq hn (by omega)]) hd
          rw[hget,hc,heq hn (by omega)]
          rw[k1]at g2⊢
          have hi0:i=0:=by simpa [Els.l] using g2
          subst hi0
          rfl
        split at h
        . rename_i j k' k'' v hk
          simp only[decide_eq_true_eq,D.forceL_iff,Q1k]at h
          obtain⟨⟨⟨rfl,rfl⟩,hall⟩,h⟩:=h
          refine⟨_,h,λc w a u hm hA ha hd=>go (.int _ v) _ rfl rfl (Qy8 (hT.get ht) (by rw[hk];simp [TK.isAgg])) (λhn hl=>qaN hall hl hn) c w a u hm hA ha hd⟩
        . rename_i v hk
          simp only[D.forceL_iff,Q1k]at h
          obtain⟨hall,h⟩:=h
          refine⟨_,h,λc w a u hm hA ha hd=>go (.bool v) _ rfl rfl (Qy8 (hT.get ht) (by rw[hk];simp [TK.isAgg])) (λhn hl=>zaA hall hl hn) c w a u hm hA ha hd⟩
        . exact h.elim
end Go.GD
