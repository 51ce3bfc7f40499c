import Derived.Test.YtmalmklaonainaaGreatReplayRefusesMem
import Derived.Test.YtmalmklaonainaaGreatReplayRefusesTab
set_option linter.all false
namespace Go.GD
open Go
theorem Q1s{K:Rows->Prop}: ∀{R:Rows},Qhj R K↔K R
 |[]=>Iff.rfl
 |d::l=>by unfold Qhj;exact Q1s (R:=l) (K:=λl=>K (d::l))
theorem D.force_iff{K:D->Prop}{d:D}:d.force K↔K d:=by cases d<;>rfl
theorem D.forceL_iff: ∀{l:List D} {K:List D->Prop},D.forceL l K↔K l
 |[],_=>Iff.rfl
 |d::l,K=>by unfold D.forceL;rw[D.force_iff];exact D.forceL_iff (l:=l) (K:=λl=>K (d::l))
theorem Zey{row:Row}: ∀{R:Rows} {n:Nat} {K:Nat->Rows->Prop},addR1 row R n K↔K (n+R.length) (R++[some row])
 |[],_,_=>Iff.rfl
 | x::l,n,K=>by
   unfold addR1
   rw[Zey (R:=l) (K:=λk l=>K k (x::l))]
   simp only[List.length_cons,List.cons_append]
   rw[show n+1+l.length=n+(l.length+1) by omega]
theorem Qu4{row:Row}{R:Rows}{K:Nat->Rows->Prop}:addR R row K↔K R.length (R++[some row]):=by
 unfold addR;rw[Zey];simp
theorem PRep.one{I:Blocks}{w:World}{d:D}{v:Value}(h:PRep I w d v):v.oneCell'=true:=by
 cases d<;>simp only[Q4o,Q72,Q6v,Q4q,Q4j,Q7a,Qbm,Q8e,Q8s,Q89,Qcm,Q62,Q67,Q66,Q8m,Q8b,vF,Zot,Zn8]at h
 case sl sz es fr=>obtain⟨a,cap,hv,_⟩:=h;subst hv;rfl
 case emp=>obtain⟨a,hv⟩:=h;subst hv;rfl
 all_goals first|(subst h;rfl)|exact h.elim
theorem CRep.one{c:Ctx}{w:World}{d:D}{v:Value}(h:CRep c w d v):v.oneCell'=true:=by
 cases d<;>simp only[CRep]at h
 case sl sz es fr=>obtain⟨a,cap,hv,_⟩:=h;subst hv;rfl
 case emp=>obtain⟨a,hv,_⟩:=h;subst hv;rfl
 case nilq es=>obtain⟨b,hv,_⟩:=h;subst hv;rfl
 case all r=>obtain⟨row,_,_,⟨_,a,hv,_⟩|⟨_,cap,arr,hv,_⟩⟩:=h<;>(subst hv;rfl)
 case own r o n=>
   obtain⟨row,_,_,_,⟨_,a,hv,_⟩|⟨_,cap,arr,_,_,_,hv,_⟩⟩:=h<;>(subst hv;rfl)
 case ptr r i off=>obtain⟨row,_,_,_,hv⟩:=h;subst hv;rfl
 case pa r i off len k n=>obtain⟨_,row,_,_,_,hv⟩:=h;subst hv;rfl
 case iptr sz es i off=>obtain⟨b,o,arr,ty,fz,hv,_⟩:=h;subst hv;rfl
 case clo f cs=>obtain⟨us,⟨_,hv⟩|⟨_,l,rec,hv,_⟩,_⟩:=h<;>(subst hv;rfl)
 case selfp r=>obtain hv|⟨row,_,_,_,hv⟩:=h<;>(subst hv;rfl)
 all_goals first|exact h|(subst h;rfl)|exact h.elim
theorem Qvs{I:Blocks}{w:World}: ∀{cs:List D} {arr:Array Value} {off j:Nat},Qev I w cs arr off->j<cs.length-> ∃v,arr[off+j]? =some v/\PRep I w (cs.getD j .dead) v
 | c::cs,arr,off,0,h,_=>by
   simp only[Qdc,Qag]at h
   simpa using h.1
 | c::cs,arr,off,j+1,h,hj=>by
   simp only[Qdc,Qag]at h
   obtain⟨v,hv,hp⟩:=Qvs h.2 (Nat.lt_of_succ_lt_succ (by simpa using hj))
   exact⟨v,by rw[show off+(j+1)=off+1+j by omega];exact hv,by simpa using hp⟩
theorem Qx0{I:Blocks}{w:World}: ∀{es:List (List D)} {arr:Array Value} {off sz i:Nat},Q1r I w es arr off sz->i<es.length->(es.getD i []).length=sz/\Qev I w (es.getD i []) arr (off+i*sz)
 | e::es,arr,off,sz,0,h,_=>by
   simp only[Q2v,Q2a]at h
   simpa using⟨h.1,h.2.1⟩
 | e::es,arr,off,sz,i+1,h,hi=>by
   simp only[Q2v,Q2a]at h
   obtain⟨h1,h2⟩:=Qx0 h.2.2 (Nat.lt_of_succ_lt_succ (by simpa using hi))
   exact⟨by simpa using h1,by rw[show off+(i+1)*sz=off+sz+i*sz by rw[Nat.succ_mul];omega];simpa using h2⟩
theorem Z88{c:Ctx}{w:World}: ∀{cs:List D} {arr:Array Value} {off j:Nat},Q4g c w cs arr off->j<cs.length-> ∃v,arr[off+j]? =some v/\CRep c w (cs.getD j .dead) v
 | d::cs,arr,off,0,h,_=>by
   simp only[Q4g]at h
   simpa using h.1
 | d::cs,arr,off,j+1,h,hj=>by
   simp only[Q4g]at h
   obtain⟨v,hv,hp⟩:=Z88 h.2 (Nat.lt_of_succ_lt_succ (by simpa using hj))
   exact⟨v,by rw[show off+(j+1)=off+1+j by omega];exact hv,by simpa using hp⟩
theorem Qc0{c:Ctx}{w:World}: ∀{ds:List D} {vs:List Value},(Q3v c w ds vs↔ds.length=vs.length/\ ∀j v,vs[j]? =some v->CRep c w (ds.getD j .dead) v)
 |[],[]=>by simp [Q3v]
 |[],v::vs=>by simp [Q3v]
 |d::ds,[]=>by simp [Q3v]
 | d ::ds,v::vs=>by
   simp only[Q3v,Qc0 (ds:=ds) (vs:=vs),List.length_cons,Nat.add_right_cancel_iff]
   constructor
   . rintro⟨h1,h2,h3⟩
     refine⟨h2,λj u hu=> ?_⟩
     cases j with
     |zero=>simp at hu;subst hu;simpa using h1
     |succ j=>simpa using h3 j u (by simpa using hu)
   . rintro⟨h1,h2⟩
     exact⟨by simpa using h2 0 v (by simp),h1,λj u hu=>by simpa using h2 (j+1) u (by simpa using hu)⟩
def XRep(pl:Bool)(c:Ctx)(w:World)(d:D)(v:Value):Prop:=match pl with|true=>PRep c.I w d v|false=>CRep c w d v
theorem Zgm{pl:Bool}{ty:CTy}{d:D}{K:D->Prop}(h:Qjs pl ty d K): ∃d',K d'/\ ∀c w v,XRep pl c w d v->CRep c w d' v:=by
 cases ty with
 | int k=>
   simp only[Qjs,Q08]at h
   refine⟨_,h.2,λc w v hx=> ?_⟩
   cases d<;>simp [D.isInt]at h
   obtain⟨rfl,_⟩:=h
   cases pl<;>simpa [XRep,Q4o,Q72,Q6v,Q4q,Q4j,Q7a,Qbm,Q8e,Q8s,Q89,Qcm,Q62,Q67,Q66,Q8m,Q8b,CRep,D.toInt] using hx
 | bool=>
   simp only[Qjs,Q08]at h
   refine⟨_,h.2,λc w v hx=> ?_⟩
   cases d<;>simp [D.isBool]at h
   cases pl<;>simpa [XRep,Q4o,Q72,Q6v,Q4q,Q4j,Q7a,Qbm,Q8e,Q8s,Q89,Qcm,Q62,Q67,Q66,Q8m,Q8b,CRep,D.toBool] using hx
 | str=>
   simp only[Qjs,Q08]at h
   refine⟨_,h.2,λc w v hx=> ?_⟩
   cases d<;>simp [D.isStr]at h
   cases pl<;>simpa [XRep,Q4o,Q72,Q6v,Q4q,Q4j,Q7a,Qbm,Q8e,Q8s,Q89,Qcm,Q62,Q67,Q66,Q8m,Q8b,CRep,D.toStr] using hx
 | sl n=>
   cases pl with
   | true=>
     simp only[Qjs,Q08]at h
     refine⟨_,h.2,λc w v hx=> ?_⟩
     cases d<;>(try(simp [D.isSl]at h;done))
     case nils=>exact⟨none,0,Q4j.1 hx,Nat.zero_le _, .inl rfl⟩
     case emp=>obtain⟨a,ha⟩:=Q7a.1 hx;exact⟨a,0,ha,Nat.zero_le _, .inl rfl⟩
     simp only[D.isSl]at h
     have hh:=bE h.1
     subst hh
     simp only[XRep,Q4o,Q72,Q6v,Q4q,Q4j,Q7a,Qbm,Q8e,Q8s,Q89,Qcm,Q62,Q67,Q66,Q8m,Q8b]at hx
     simp only[CRep,D.toEs]
     obtain⟨a,cap,hv,hc,hes⟩:=hx
     refine⟨a,cap,hv,hc,?_⟩
     rcases hes with hes|⟨b,off,arr,ty,fz,ha,hI,hh,hE⟩
     . exact .inl hes
     . exact .inr ⟨b,off,arr,ty,fz,ha,hI,by simp,hh,Z0x.1 hE⟩
   | false=>
     simp only[Qjs,Q08,D.force_iff]at h
     exact⟨_,h.2,λc w v hx=>hx⟩
 | other=>
   cases pl with
   | false=>
     simp only[Qjs,Q08,D.force_iff]at h
     exact⟨_,h.2,λc w v hx=>hx⟩
   | true=>
     simp only[Qjs]at h
     cases d<;>simp only at h
     case nilp=>exact⟨_,h,λc w v hx=>Q4q.1 hx⟩
theorem Z7h{pl:Bool}{e:List D}: ∀{tys:List CTy} {off:Nat} {K:List D->Prop},Qsi pl e tys off K->
   ∃ds,K ds/\ds.length=tys.length/\ ∀j,j<tys.length-> ∀c w v,XRep pl c w (e.getD (off+j) .dead) v->CRep c w (ds.getD j .dead) v
 |[],off,K,h=>⟨[],h,rfl,λj hj=>by simp at hj⟩
 | t::ts,off,K,h=>by
   simp only[Qsi]at h
   obtain⟨d,hd,h1⟩:=Zgm h
   obtain⟨ds,hds,hl,h2⟩:=Z7h hd
   refine⟨d::ds,hds,by simp [hl],λj hj c w v hx=> ?_⟩
   cases j with
   |zero=>simpa using h1 c w v (by simpa using hx)
   |succ j=>simpa using h2 j (by simpa using hj) c w v (by rw[show off+1+j=off+(j+1) by omega];exact hx)
theorem Qc4{P:Program}{t:TypeId}{ti:TI}(h:tiOf P t=some ti): ∃i,P.info? t=some i/\i.size=ti.size/\i.bytes=ti.bytes/\ti.ctys.length=ti.size/\ti.kind=Qyr P t/\
   ti.zero=(i.zero.bind λz=>Qnl z.cells.toList)/\ti.eq=(!(P.eqGuardType P.depth t)&&eqOf P 8 t)/\ti.ctys=Q6e P 8 t/\ ∃d,P.underlying t=some d:=by
 unfold tiOf at h
 cases hi:P.info? t with
 |none=>simp [hi]at h
 | some i=>
   simp only[hi]at h
   split at h
   . rename_i hl
     simp only[Option.some.injEq]at h
     subst h
     exact⟨i,rfl,rfl,rfl,hl.1,rfl,rfl,rfl,rfl,Option.isSome_iff_exists.1 hl.2⟩
   . cases h
def Z47:TypeDesc->Bool| .struct _=>true| .array _ _=>true|_=>false
theorem Qi7{P:Program}{t:TypeId}{d:TypeDesc}(hd:P.underlying t=some d):(Qyr P t).isAgg=Z47 d:=by
 unfold Qyr
 rw[hd]
 cases d<;>rfl
theorem Z4k{P:Program}{t:TypeId}{d:TypeDesc}(hd:P.underlying t=some d)(w:World):(isAgg t).run P w= .ok (Qyr P t).isAgg w:=by
 rw[Qi7 hd]
 unfold isAgg
 rw[Sem.run_bind,run_underlying hd w]
 cases d<;>rfl
def vsAt(arr:Array Value)(o n:Nat):List Value:=(List.range n).map λj=>(arr[o+j]?).getD undef
theorem Qks(b o j:Nat):(⟨b,o,none⟩:Addr).add j=⟨b,o+j,none⟩:=by
 unfold Addr.add;split<;>simp_all
theorem Ql5{P:Program}{t:TypeId}{ti:TI}(ht:tiOf P t=some ti){w:World}{b o:Nat}{arr:Array Value}{ty:TypeId}{fz:Nat×Nat}(hb:w.heap[b]? =some (.cells arr ty fz))
   (hin: ∀j,j<ti.size-> ∃v,arr[o+j]? =some v) (h1:ti.kind.isAgg=true\/ti.size=1):
   (loadVar t ⟨b,o,none⟩).run P w= .ok (if ti.kind.isAgg then .agg (vsAt arr o ti.size).toArray else(arr[o]?).getD undef) w:=by
 obtain⟨i,hi,hs,_,_,hk,_,_,_,d,hd⟩:=Qc4 ht
 have hcell: ∀j,w.cell? ⟨b,o+j,none⟩=arr[o+j]? :=λj=>by simp [World.cell?,hb]
 have hl:(loadCells ⟨b,o,none⟩ ti.size).run P w= .ok (vsAt arr o ti.size).toArray w:=
   run_loadCells w _ _ _ λj hj=>by
     rw[Qks,hcell]
     obtain⟨v,hv⟩:=hin j hj
     simp [hv]
 unfold loadVar
 rw[Sem.run_bind,Z4k hd,Result.andThen_ok,<-hk]
 cases hg:ti.kind.isAgg with
 | true=>
   simp only[if_true,Sem.run_bind,sizeOf,typeInfo,run_program,Result.andThen_ok,hi,Sem.run_pure,hs,hl]
 | false=>
   have hsz:ti.size=1:=by simpa [hg] using h1
   obtain⟨v,hv⟩:=hin 0 (by omega)
   have hv':arr[o]? =some v:=by simpa using hv
   have hc:w.cell? ⟨b,o,none⟩=some v:=by simpa [hv'] using hcell 0
   simp [hc,hv']
theorem Zeb{pl:Bool}{ti:TI}{e:List D}{off:Nat}{K:D->Prop}(hl:ti.ctys.length=ti.size)(h:Qjx pl ti e off K):
   ∃ val,K val/\(ti.kind.isAgg=true\/ti.size=1)/\ ∀c w arr o,(∀j,j<ti.size-> ∃v,arr[o+j]? =some v/\XRep pl c w (e.getD (off+j) .dead) v)->
     Rep c w val (if ti.kind.isAgg then .agg (vsAt arr o ti.size).toArray else(arr[o]?).getD undef):=by
 unfold Qjx at h
 cases hg:ti.kind.isAgg with
 | true=>
   simp only[hg]at h
   obtain⟨ds,hK,hlen,hr⟩:=Z7h h
   refine⟨_,hK, .inl rfl,λc w arr o hx=> ?_⟩
   simp only[if_true]
   refine⟨_,rfl,Qc0.2 ⟨by simp [vsAt,hlen,hl],λj v hv=> ?_⟩⟩
   have hj:j<ti.size:=by
     have:=(List.getElem?_eq_some_iff.1 hv).1
     simpa [vsAt] using this
   obtain⟨u,hu,hxr⟩:=hx j hj
   have:u=v:=by simpa [vsAt,hj,hu] using hv
   subst this
   exact hr j (by omega) c w u hxr
 | false=>
   simp only[hg]at h
   match hc:ti.ctys with
   | [y]=>
     simp only[hc]at h
     obtain⟨d,hK,hr⟩:=Zgm h
     have hsz:ti.size=1:=by rw[<-hl,hc];rfl
     refine⟨d,hK, .inr hsz,λc w arr o hx=> ?_⟩
     obtain⟨u,hu,hxr⟩:=hx 0 (by omega)
     have hu':arr[o]? =some u:=by simpa using hu
     simp only[Bool.false_eq_true,if_false,hu',Option.getD_some]
     have:=hr c w u (by simpa using hxr)
     cases d<;>first|exact this|trivial|exact this.elim
   |[]=>simp only[hc]at h
   |_::_::_=>simp only[hc]at h
