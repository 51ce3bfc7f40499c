import Derived.Test.YtoijmgbahaekiaaGreatTopJournalDraw
open List renaming all_cons->gM,mem_cons_self->eD,getD->aK,getElem?_eq_none->aM,mem_of_getElem?->fM,mem_append_left->gH,mem_append_right->gG,mem_filter->gO,mem_range->gQ
open Array renaming mem_toList_iff->gN,toArray_toList->bU,getElem?_eq_getElem->aJ,getElem?_setIfInBounds_ne->aQ,getD->aP,getD_eq_getD_getElem?->aF,getElem?_eq_none->gR,mem_map->gS,replicate->gD
open Option renaming bind_some->aL,map_some->aR,getD_some->aG
open Bool renaming or_eq_true->aI,false_eq_true->aN,not_eq_true'->aS
open Nat renaming lt_of_lt_of_le->bJ,le_refl->aO,add_zero->bH,zero_le->aT
set_option linter.all false
namespace Go.GD
open Go
set_option linter.unusedSectionVars false
theorem Qou{pl:Bool}{ty:CTy}{d:D}{K:D->Prop}(h:Qec pl ty d K):∃d',K d'/\∀K2:D->Prop,K2 d'->Qec pl ty d K2:=by
 cases ty<;>simp only[Qec]at h⊢
 ·exact⟨_,(Q02.1 h).2,λK2 h2=>Q02.2 ⟨(Q02.1 h).1,h2⟩⟩
 ·exact⟨_,(Q02.1 h).2,λK2 h2=>Q02.2 ⟨(Q02.1 h).1,h2⟩⟩
 ·exact⟨_,(Q02.1 h).2,λK2 h2=>Q02.2 ⟨(Q02.1 h).1,h2⟩⟩
 ·cases pl
  ·simp only[D.force_iff]at h⊢
   exact⟨_,(Q02.1 h).2,λK2 h2=>Q02.2 ⟨(Q02.1 h).1,h2⟩⟩
  ·exact⟨_,(Q02.1 h).2,λK2 h2=>Q02.2 ⟨(Q02.1 h).1,h2⟩⟩
 ·cases pl
  ·simp only[D.force_iff]at h⊢
   exact⟨_,(Q02.1 h).2,λK2 h2=>Q02.2 ⟨(Q02.1 h).1,h2⟩⟩
  ·cases d<;>first|exact h.elim|exact⟨_,h,λK2 h2=>h2⟩
theorem Qbk{pl:Bool}{e:List D}:∀{tys:List CTy} {off:Nat} {K:List D->Prop},Qg8 pl e tys off K->∃ds,K ds/\∀K2:List D->Prop,K2 ds->Qg8 pl e tys off K2
 |[],off,K,h=>⟨[],h,λK2 h2=>h2⟩
 |t::ts,off,K,h=>by
  simp only[Qg8]at h⊢
  obtain⟨d,hd,h1⟩:=Qou h
  obtain⟨ds,hds,h2⟩:=Qbk hd
  exact⟨_,hds,λK2 hk=>h1 _ (h2 _ hk)⟩
theorem Qkl{pl:Bool}{ti:TI}{e:List D}{off:Nat}{K:D->Prop}(h:Qez pl ti e off K):∃d,K d/\∀K2:D->Prop,K2 d->Qez pl ti e off K2:=by
 unfold Qez at h
 cases hg:ti.kind.isAgg with
 |true=>
  simp only[hg]at h
  obtain⟨ds,h1,h2⟩:=Qbk h
  exact⟨_,h1,λK2 hk=>by unfold Qez;simp only[hg];exact h2 _ hk⟩
 |false=>
  simp only[hg]at h
  split at h
  ·rename_i y hy
   obtain⟨d,h1,h2⟩:=Qou h
   exact⟨_,h1,λK2 hk=>by unfold Qez;simp only[hg,hy];exact h2 _ hk⟩
  ·exact h.elim
theorem Z55{T:Tab}{t:TypeId}{r i off:Nat}{R:Rows}{K:D->Rows->Prop}(h:Qfi T t (.ptr r i off) R K):
 ∃d,K d R/\(∃row,R.getD r none=some row)/\∀R2:Rows,R2.getD r none=R.getD r none->Qfi T t (.ptr r i off) R2 λd' R'=>d'=d/\R'=R2:=by
 unfold Qfi at h
 cases hT:T.get t with
 |none=>simp only[hT]at h
 |some ti=>
  simp only[hT]at h
  cases hr:R.getD r none with
  |none=>simp only[hr]at h
  |some row=>
   obtain⟨box,ty,sz,es⟩:=row
   simp only[hr,Q02]at h
   obtain⟨h0,h⟩:=h
   obtain⟨d,h1,h2⟩:=Qkl h
   refine⟨d,h1,?_,λR2 hR2=>?_⟩
   ·exact⟨_,rfl⟩
   ·unfold Qfi
    simp only[hT,hR2,Q02]
    exact⟨h0,h2 _ (by simp)⟩
theorem Qra{ks:List Nat}{d:D}(h:Qnx d=true):d.kill1 ks=d:=by cases d<;>first|rfl|cases h
theorem Qri{ks:List Nat}:∀{l:List D},l.all Qnx=true->D.kills ks l=l
 |[],_=>rfl
 |d::l,h=>by
  simp only[gM,aE]at h
  simp only[D.kills]
  rw[Qra h.1,Qri h.2]
theorem Z6s{ks:List Nat}{d:D}(h:Qnx (d.kill1 ks)=true):d.kill1 ks=d:=by
 cases d<;>first
  |rfl
  |(simp only[D.kill1]at h;split at h<;>cases h)
theorem Qgj{ks:List Nat}:∀{l:List D},(D.kills ks l).all Qnx=true->D.kills ks l=l
 |[],_=>rfl
 |d::l,h=>by
  simp only[D.kills,gM,aE]at h
  simp only[D.kills]
  rw[Z6s h.1,Qgj h.2]
theorem Zb5{d:D}(h:datD d=true)(ks:List Nat):d.killV ks=d.kill1 ks:=by
 cases d<;>first
  |rfl
  |(cases h;done)
  |(simp only[D.killV,D.kill,D.kill1];rw[Qri h])
theorem Qzg{pl:Bool}{ty:CTy}{d d':D}{ks:List Nat}(h:Qec pl ty d λx=>x=d')(hd:d'.kill1 ks=d'):d.kill1 ks=d:=by
 cases ty<;>simp only[Qec]at h
 ·cases d<;>first|rfl|(simp[D.isInt,Q02]at h;done)
 ·cases d<;>first|rfl|(simp[D.isBool,Q02]at h;done)
 ·cases d<;>first|rfl|(simp[D.isStr,Q02]at h;done)
 ·cases pl
  ·simp only[D.force_iff,Q02]at h
   rw[h.2];exact hd
  ·simp only[Q02]at h
   cases d<;>first|rfl|(simp[D.isSl,Q02]at h;done)
 ·cases pl
  ·simp only[D.force_iff,Q02]at h
   rw[h.2];exact hd
  ·cases d<;>first|exact h.elim|rfl
theorem Z0m{ks:List Nat}:∀{l:List D} {j:Nat},(D.kills ks l).getD j .dead=(l.getD j .dead).kill1 ks
 |[],_=>rfl
 |_::_,0=>rfl
 |_::l,j+1=>Z0m (l:=l) (j:=j)
theorem Qu(ks:List Nat)(row:Row)(i off:Nat):((row.kill ks).es.get i).getD off .dead=(row.es.get i).getD off .dead\/((row.kill ks).es.get i).getD off .dead=((row.es.get i).getD off .dead).kill1 ks:=by
 unfold Row.kill
 split
 ·rename_i ty sz e
  cases i with
  |zero=>exact .inr Z0m
  |succ i=>exact .inl rfl
 ·exact .inl rfl
theorem Qwk{pl:Bool}{ks:List Nat}{e e2:List D}(he:∀j,e2.getD j .dead=e.getD j .dead\/e2.getD j .dead=(e.getD j .dead).kill1 ks):∀{tys:List CTy} {off:Nat} {ds:List D},Qg8 pl e tys off (λx=>x=ds)->ds.all Qnx=true->Qg8 pl e2 tys off λx=>x=ds
 |[],_,_,h,_=>h
 |t ::ts,off,ds,h,hd=>by
  simp only[Qg8]at h⊢
  obtain⟨d,h1,h2⟩:=Qou h
  obtain⟨ds1,h3,h4⟩:=Qbk h1
  subst h3
  simp only[gM,aE]at hd
  have hc:=h2 (λx=>x=d) rfl
  have e:e2.getD off .dead=e.getD off .dead:=by
   rcases he off with e|e
   ·exact e
   ·rw[e];exact Qzg hc (Qra hd.1)
  rw[e]
  refine h2 _ ?_
  obtain⟨ds3,h5,h6⟩:=Qbk (Qwk he (h4 (λx=>x=ds1) rfl) hd.2)
  exact h6 _ (by rw[h5])
theorem Z7f{pl:Bool}{ti:TI}{row:Row}{i off:Nat}{v:D}{ks:List Nat}(h:Qez pl ti (row.es.get i) off λx=>x=v)(hv:datD v=true)(hk:v.kill1 ks=v):Qez pl ti ((row.kill ks).es.get i) off λx=>x=v:=by
 unfold Qez at h⊢
 cases hg:ti.kind.isAgg with
 |true=>
  simp only[hg]at h⊢
  obtain⟨ds,h1,h2⟩:=Qbk h
  rw[<-h1]at hv⊢
  have hd:ds.all Qnx=true:=hv
  have:=Qwk (e2:=(row.kill ks).es.get i) (ks:=ks) (λj=>Qu ks row i j) (h2 (λx=>x=ds) rfl) hd
  obtain⟨ds2,h3,h4⟩:=Qbk this
  exact h4 _ (by rw[h3])
 |false=>
  simp only[hg]at h⊢
  split at h
  ·rename_i y hy
   have e:((row.kill ks).es.get i).getD off .dead=(row.es.get i).getD off .dead:=by
    rcases Qu ks row i off with e|e
    ·exact e
    ·rw[e];exact Qzg h hk
   rw[e];exact h
  ·exact h.elim
theorem Qs1{pl:Bool}{ti:TI}{i off:Nat}{v:D}(hv:datD v=true):∀{L:List (List Nat)} {row:Row},(∀kk∈L,v.kill1 kk=v)->(Qez pl ti (row.es.get i) off λx=>x=v)->Qez pl ti ((L.foldl (λr k=>Row.kill k r) row).es.get i) off λx=>x=v
 |[],_,_,h=>h
 |k::L,row,hL,h=>Qs1 hv (L:=L) (row:=row.kill k) (λkk hk=>hL kk (List.mem_cons_of_mem _ hk)) (Z7f h hv (hL k (eD ..)))
theorem Qx3:∀(L:List (List Nat)) (row:Row),(L.foldl (λr k=>Row.kill k r) row).box=row.box/\(L.foldl (λr k=>Row.kill k r) row).sz=row.sz
 |[],_=>⟨rfl,rfl⟩
 |k::L,row=>by
  obtain⟨k1,k2,k3,k4⟩:=Q3f k row
  obtain⟨h1,h2⟩:=Qx3 L (row.kill k)
  exact⟨h1.trans k1,h2.trans k3⟩
theorem Zar{T:Tab}{t:TypeId}{r i off:Nat}{R R2:Rows}{v:D}{row:Row}{L:List (List Nat)}(h:Qfi T t (.ptr r i off) R λd' R'=>d'=v/\R'=R)(hv:datD v=true)(hL:∀kk∈L,v.kill1 kk=v)(hr:R.getD r none=some row)(hR2:R2.getD r none=some (L.foldl (λr k=>Row.kill k r) row)):
 Qfi T t (.ptr r i off) R2 λd' R'=>d'=v/\R'=R2:=by
 obtain⟨s1,s2⟩:=Qx3 L row
 unfold Qfi at h⊢
 cases hT:T.get t with
 |none=>simp only[hT]at h
 |some ti=>
  simp only[hT,hr]at h
  simp only[hT,hR2]
  obtain⟨box,ty,sz,es⟩:=row
  simp only at h s1 s2
  generalize hrow:L.foldl (λr k=>Row.kill k r) (⟨box,ty,sz,es⟩:Row)=row2 at s1 s2⊢
  obtain⟨box2,ty2,sz2,es2⟩:=row2
  simp only at s1 s2⊢
  subst s1;subst s2
  simp only[Q02]at h⊢
  refine⟨h.1,?_⟩
  have hx:Qez (!box2) ti (es.get i) off λx=>x=v:=by
   obtain⟨d,h1,h2⟩:=Qkl h.2
   exact h2 _ h1.1
  have:=Qs1 (L:=L) (row:=⟨box2,ty,sz2,es⟩) hv hL hx
  rw[hrow]at this
  obtain⟨d,h1,h2⟩:=Qkl this
  exact h2 _ ⟨h1,by first|trivial|rfl⟩
theorem Z31{T:Tab}{t:TypeId}{r i off:Nat}{d:D}{R:Rows}{K:D->Rows->Prop}(h:Qjx T t (.ptr r i off) d R K):
 ∃R',K .dead R'/\(∀r',r'≠r->R'.getD r' none=R.getD r' none)/\Qjx T t (.ptr r i off) d R λd' R2=>d'=.dead/\R2=R':=by
 unfold Qjx at h
 cases hT:T.get t with
 |none=>simp only[hT]at h
 |some ti=>
  simp only[hT]at h
  cases hr:R.getD r none with
  |none=>simp only[hr]at h
  |some row=>
   obtain⟨box,ty,sz,es⟩:=row
   simp only[hr,Q02]at h
   obtain⟨h0,h⟩:=h
   have hset:∀(x:Option Row) (r':Nat),r'≠r->(R.set r x).getD r' none=R.getD r' none:=λx r' h=>by
    simp only[aK,List.getElem?_set_ne (Ne.symm h)]
   cases box with
   |true=>
    simp only[D.forceL_iff,Q1h]at h
    refine⟨_,h,hset _,?_⟩
    unfold Qjx
    simp only[hT,hr,Q02,D.forceL_iff,Q1h]
    exact⟨h0,by simp⟩
   |false=>
    simp only[Q1h]at h
    refine⟨_,h.2,hset _,?_⟩
    unfold Qjx
    simp only[hT,hr,Q02,Q1h]
    exact⟨h0,h.1,by simp⟩
structure Z3h(P:Program)(o:Oper)(row:Row)(arr:Array Value):Prop where
 box:row.box=true
 sz:0<row.sz
 cells:∃e,row.es=.gen [e]/\e.length=row.sz/\arr.size=row.sz/\∀(c:Ctx) (w:World),Q32 c w e arr 0
 run:∀(ev:Operand->Value) (w:World),(execOp ev o).run P w=.ok (.value (.pointer (some ⟨w.heap.size,0,none⟩))) (w.alloc (.cells arr row.ty))
theorem Zbf{P:Program}{T:Tab}(hT:Q34 P T){o:Oper}{t:TypeId}(ho:o.op=.alloc t){k:TK}{sz b:Nat}{cs:List CTy}{ds:List D}{e:Bool}(ht:T.get t=some ⟨k,sz,b,cs,some ds,e⟩)(h0:0<sz)(hl:ds.length=sz):∃arr,Z3h P o ⟨true,t,sz,.gen [ds]⟩ arr:=by
 obtain⟨i,u,hi,hu,hz,_,_,_,hzero⟩:=Qbu hT ht
 have hb:∀(c:Ctx) (w:World),Z10 c w ⟨true,t,sz,.gen [ds]⟩ u.cells:=λc w=>Z6p h0 hl (Qbb hz c w)
 have hsz:u.cells.size=sz:=by have:=Q81 hz;simp at this;omega
 refine⟨u.cells,⟨rfl,h0,⟨ds,rfl,hl,hsz,λc w=>?_⟩,λev w=>?_⟩⟩
 ·have:=(hb c w).2
  simp only[if_true]at this
  obtain⟨e',h1,_,_,h4⟩:=this
  cases h1;exact h4
 ·simp only[execOp,ho,Instr.alloc,Sem.run_bind,hzero,Result.andThen_ok,Qq2,Sem.run_pure]
structure Fine(P:Program)(G:List Q09)(o:Oper)(env:List (Nat×D))(R:Rows)(ks:List Nat)(val:D)(R':Rows):Prop where
 ld:∀t a r ii off,o.guard=none->o.op=.load t (.tmp a)->look env a=.ptr r ii off->ks=[]/\R'=R/\(∃row,R.getD r none=some row)/\(∀(ev:Operand->D) (R2:Rows),ev (.tmp a)=.ptr r ii off->R2.getD r none=R.getD r none->OpN P o ev R2 val R2)/\∀(ev:Operand->D) (R2:Rows) row (L:List (List Nat)),datD val=true->(∀kk∈L,val.kill1 kk=val)->ev (.tmp a)=.ptr r ii off->R.getD r none=some row->R2.getD r none=some (L.foldl (λr k=>Row.kill k r) row)->OpN P o ev R2 val R2
 st:∀t b x r ii off,o.guard=none->o.op=.store t (.tmp b) x->look env b=.ptr r ii off->ks=[]/\∀r',r'≠r->R'.getD r' none=R.getD r' none
 pu:∀q,o.guard=none->Q8u env o.op=some q->ks=[]/\R'=R/\∀(ev:Operand->D) (R2:Rows),(∀x∈o.op.operands,ev x=evOp env x)->OpN P o ev R2 val R2
 cl:∀f args tys,o.guard=none->o.op=.call ⟨.value (.func f),args,tys⟩->(Q8t G f=none/\Qx4 G f=false)->ks=[]
 al:∀t,o.guard=none->o.op=.alloc t->ks=[]/\∃row arr,Z3h P o row arr/\val=.ptr R.length 0 0/\R'=R++[some row]
 ap2:∀args tys,o.guard=none->o.op=.call ⟨.builtin .append,args,tys⟩->∀r row,R.getD r none=some row->memB r ks=false->R'.getD r none=some (row.kill ks)
 ap:∀args tys x l,o.guard=none->o.op=.call ⟨.builtin .append,args,tys⟩->args.toList=.tmp x::l->Qv5 (look env x)=true->ks=[]/\∀r row,R.getD r none=some row->R'.getD r none=some row
theorem Q3y{a:Nat}:∀{l:List Operand},a∈Q45 l↔Operand.tmp a∈l
 |[]=>by simp[Q45]
 |x::l=>by cases x<;>simp[Q45,Q3y (l:=l)]
theorem Z7j{op:Op}{q:List Nat}(h:Q64 op=some q){a:Nat}(ha:Operand.tmp a∈op.operands):a∈q:=by
 unfold Q64 at h
 split at h
 ·cases h;rw[Q3y];simpa[Op.operands]using ha
 ·cases h;rw[Q3y];simpa[Op.operands]using ha
 ·cases h;rw[Q3y];simpa[Op.operands]using ha
 ·cases h;rw[Q3y];simpa[Op.operands]using ha
 ·cases h;rw[Q3y];simpa[Op.operands]using ha
 ·split at h
  ·cases h
  ·cases h;rw[Q3y];simpa[Op.operands]using ha
 ·cases h
theorem Z18{G:List Q09}{op:Op}{q:List Nat}(h:Q64 op=some q):isW G op=false/\Qjz op=false/\(∀t x,op≠.load t x)/\(∀t x y,op≠.store t x y)/\∀c,op≠.call c:=by
 unfold Q64 at h
 split at h<;>first|exact⟨rfl,rfl,λ_ _ h=>(by cases h),λ_ _ _ h=>(by cases h),λ_ h=>(by cases h)⟩|cases h
theorem qH{T:Tab}{op:Op}{q:List Nat}(hq:Q64 op=some q){ev:Operand->D}{R:Rows}{K:D->Rows->Prop}(h:opVC T op ev R K):
 ∃val,K val R/\∀(ev2:Operand->D) (R2:Rows),(∀x∈op.operands,ev2 x=ev x)->opVC T op ev2 R2 λd R'=>d=val/\R'=R2:=by
 unfold Q64 at hq
 split at hq
 ·rename_i x
  simp only[opVC,D.force_iff]at h⊢
  exact⟨_,h,λev2 R2 he=>⟨he x (by simp[Op.operands]),trivial⟩⟩
 ·rename_i x
  simp only[opVC,D.force_iff]at h⊢
  exact⟨_,h,λev2 R2 he=>⟨he x (by simp[Op.operands]),trivial⟩⟩
 ·rename_i x n
  simp only[opVC]at h⊢
  split at h
  ·rename_i ds hds
   simp only[Q02,D.force_iff]at h
   refine⟨_,h.2,λev2 R2 he=>?_⟩
   rw[he x (by simp[Op.operands]),hds]
   simp only[Q02,D.force_iff]
   exact⟨h.1,trivial,trivial⟩
  ·exact h.elim
 ·rename_i x
  simp only[opVC]at h⊢
  split at h
  ·rename_i hx
   refine⟨_,h,λev2 R2 he=>?_⟩
   rw[he x (by simp[Op.operands]),hx]
   simp
  ·rename_i hx
   refine⟨_,h,λev2 R2 he=>?_⟩
   rw[he x (by simp[Op.operands]),hx]
   simp
  ·exact h.elim
 ·rename_i t x f
  simp only[opVC]at h⊢
  split at h
  ·simp only[Q02]at h⊢
   obtain⟨h0,h⟩:=h
   split at h
   ·rename_i hx
    refine⟨_,h,λev2 R2 he=>⟨h0,?_⟩⟩
    rw[he x (by simp[Op.operands]),hx]
    simp
   ·rename_i hx
    refine⟨_,h,λev2 R2 he=>⟨h0,?_⟩⟩
    rw[he x (by simp[Op.operands]),hx]
    simp
   ·exact h.elim
  ·exact h.elim
 ·rename_i t len parts
  simp only[opVC,litVC]at h⊢
  cases hl:Zad t len
  rotate_left
  ·simp only[hl]at hq;cases hq
  simp only[hl,Qqx]at h⊢
  obtain⟨val,h1,h2⟩:=Z8 h
  exact⟨val,h1,λev2 R2 he=>h2 ev2 R2 λp hp=>he p.2 (by simp[Op.operands];exact⟨p.1,by simpa using hp⟩)⟩
 ·cases hq
theorem xo{T:Tab}{G:List Q09}{N M:Nat}{o:Oper}{q:List Nat}(hq:Q64 o.op=some q){st:St}{K:St->Prop}(h:doVC T G N M o st K):opVC T o.op (evOp st.env) st.rows λd R=>st.put N o.dst d R K:=by
 obtain⟨dst,op,type,pos,after,guard⟩:=o
 simp only at hq⊢
 unfold Q64 at hq
 split at hq<;>first|exact h|cases hq
theorem xX{T:Tab}{op:BinOp}{t:TypeId}{x y:D}{K:D->Prop}(h:binVC T op t x y K):∃val,K val/\∀K',K' val->binVC T op t x y K':=by
 unfold binVC at h⊢
 split at h
 ·split at h
  ·simp only[Q02]at h⊢;exact⟨_,h.2,λK' h'=>⟨h.1,h'⟩⟩
  ·simp only[Q02]at h⊢;exact⟨_,h.2,λK' h'=>⟨h.1,h'⟩⟩
  ·rename_i n1 n2
   simp only[Q02]at h⊢
   obtain⟨h1,h⟩:=h
   unfold Z9 at h⊢
   split at h<;>first|exact⟨_,h,λK' h'=>⟨h1,h'⟩⟩|(simp only[Q02]at h⊢;exact⟨_,h.2,λK' h'=>⟨h1,h.1,h'⟩⟩)|exact h.elim
 ·split at h<;>first|exact⟨_,h,λK' h'=>h'⟩|(simp only[Q02]at h⊢;exact⟨_,h.2,λK' h'=>⟨h.1,h'⟩⟩)|exact h.elim
 ·split at h
  ·split at h<;>first|exact⟨_,h,λK' h'=>h'⟩|exact h.elim
  ·exact h.elim
 ·split at h
  ·simp only[Q02]at h⊢
   obtain⟨h1,h⟩:=h
   split at h<;>first|exact⟨_,h,λK' h'=>⟨h1,h'⟩⟩|exact h.elim
  ·exact h.elim
 ·exact h.elim
theorem xH{T:Tab}{s d:TypeId}{x:D}{K:D->Prop}(h:Qzc T s d x K):∃val,K val/\∀K',K' val->Qzc T s d x K':=by
 unfold Qzc at h⊢
 split at h
 ·split at h
  ·exact⟨_,h,λK' h'=>h'⟩
  ·exact h.elim
 ·split at h
  ·exact⟨_,h,λK' h'=>h'⟩
  ·exact h.elim
 ·exact h.elim
theorem Z16{place:Nat->Option (Nat×Nat)}{ev:Operand->D}:∀{parts:List (Nat×Operand)} {cs:List D} {K:List D->Prop},Qog place ev parts cs K->∃l,K l/\∀(ev2:Operand->D) (K':List D->Prop),(∀p∈parts,ev2 p.2=ev p.2)->K' l->Qog place ev2 parts cs K'
 |[],cs,K,h=>by
  simp only[Qog,D.forceL_iff]at h⊢
  exact⟨_,h,λev2 K' _ h'=>h'⟩
 |(i,x)::ps,cs,K,h=>by
  simp only[Qog]at h⊢
  split at h
  ·rename_i off n hp
   simp only[Q02]at h
   obtain⟨h1,h⟩:=h
   obtain⟨l,g1,g2⟩:=Z16 h
   refine⟨l,g1,λev2 K' he h'=>?_⟩
   have hx:=he (i,x) (by simp)
   simp only at hx
   simp only[hx,Q02]
   exact⟨h1,g2 ev2 K' (λp hpp=>he p (by simp[hpp])) h'⟩
  ·exact h.elim
theorem zo{T:Tab}{t:TypeId}{parts:List (Nat×Operand)}{ev:Operand->D}{R:Rows}{K:D->Rows->Prop}(h:Qpp T t parts ev R K):∃val,K val R/\∀(ev2:Operand->D) (R2:Rows),(∀p∈parts,ev2 p.2=ev p.2)->Qpp T t parts ev2 R2 λd R'=>d=val/\R'=R2:=by
 unfold Qpp at h⊢
 split at h
 ·simp only[Q02]at h⊢
  obtain⟨h1,h⟩:=h
  obtain⟨l,g1,g2⟩:=Z16 h
  exact⟨_,g1,λev2 R2 he=>⟨h1,g2 ev2 _ he (by simp)⟩⟩
 ·simp only[Q02]at h⊢
  obtain⟨h1,h⟩:=h
  obtain⟨l,g1,g2⟩:=Z16 h
  exact⟨_,g1,λev2 R2 he=>⟨h1,g2 ev2 _ he (by simp)⟩⟩
 ·exact h.elim
theorem Qgx{T:Tab}{t:TypeId}{x:D}{lo hi:Option Operand}{ev:Operand->D}{R:Rows}{K:D->Rows->Prop}(h:Qpc T t x lo hi ev R K)(hx:Qnx x=true):∃val,K val R/\∀(ev2:Operand->D) (R2:Rows),(∀y,lo=some y->ev2 y=ev y)->(∀y,hi=some y->ev2 y=ev y)->Qpc T t x lo hi ev2 R2 λd R'=>d=val/\R'=R2:=by
 have hbnd:∀(x:Option Operand) (n:Int) (ev2:Operand->D),(∀y,x=some y->ev2 y=ev y)->bnd x ev2 n=bnd x ev n:=λx n ev2 he=>by
  unfold bnd
  cases x with
  |none=>rfl
  |some y=>simp only[he y rfl]
 unfold Qpc at h⊢
 split at h
 all_goals cases x<;>first|exact h.elim|(cases hx;done)|skip
 all_goals
  simp only at h
  split at h
  ·rename_i l hh e1 e2
   simp only[Q02]at h
   refine⟨_,h.2,λev2 R2 he1 he2=>?_⟩
   simp only[hbnd _ _ ev2 he1,hbnd _ _ ev2 he2,e1,e2,Q02]
   exact⟨h.1,trivial,trivial⟩
  ·exact h.elim
theorem yo{T:Tab}{env:List (Nat×D)}{op:Op}{q:List Nat}(hq:Q8u env op=some q){R:Rows}{K:D->Rows->Prop}(h:opVC T op (evOp env) R K):
    ∃val,K val R/\ ∀(ev2:Operand->D) (R2:Rows),(∀x∈op.operands,ev2 x=evOp env x)->opVC T op ev2 R2 λd R'=>d=val/\R'=R2:=by
  unfold Q8u at hq
  split at hq
  . rename_i q' hp;exact qH hp h
  . split at hq
    . rename_i t parts hn
      simp only[opVC]at h⊢
      obtain⟨val,g1,g2⟩:=zo h
      exact⟨val,g1,λev2 R2 he=>g2 ev2 R2 λp hp=>he p.2 (by simp [Op.operands];exact⟨p.1,by simpa using hp⟩)⟩
    . rename_i op' t x y ty hn
      simp only[opVC]at h⊢
      obtain⟨val,g1,g2⟩:=xX h
      refine⟨val,g1,λev2 R2 he=> ?_⟩
      rw[he x (by simp [Op.operands]),he y (by simp [Op.operands])]
      exact g2 _ (by simp)
    . rename_i op' t x hn
      simp only[opVC]at h⊢
      split at h
      all_goals first
        |exact h.elim
        | (rename_i hx
           refine⟨_,h,λev2 R2 he=> ?_⟩
           rw[he x (by simp [Op.operands]),hx]
           simp)
    . rename_i s d x hn
      simp only[opVC]at h⊢
      obtain⟨val,g1,g2⟩:=xH h
      refine⟨val,g1,λev2 R2 he=> ?_⟩
      rw[he x (by simp [Op.operands])]
      exact g2 _ (by simp)
    . rename_i s x f hn
      simp only[opVC]at h⊢
      split at h
      . split at h
        . rename_i cs ti hx ht
          simp only[Q02]at h
          obtain⟨h1,h⟩:=h
          split at h
          . rename_i hag
            simp only[D.forceL_iff]at h
            refine⟨_,h,λev2 R2 he=> ?_⟩
            simp only[he x (by simp [Op.operands]),hx,ht,Q02,hag,D.forceL_iff]
            exact⟨h1,trivial,trivial⟩
          . rename_i hag
            simp only[Q02,D.force_iff]at h
            refine⟨_,h.2,λev2 R2 he=> ?_⟩
            simp only[he x (by simp [Op.operands]),hx,ht,Q02,hag,D.force_iff]
            exact⟨h1,h.1,trivial,trivial⟩
        . exact h.elim
      . exact h.elim
    . rename_i t x y hn
      simp only[opVC]at h⊢
      split at h
      . rename_i ht hx hy
        simp only[Q02]at h
        refine⟨_,h.2,λev2 R2 he=> ?_⟩
        simp only[he x (by simp [Op.operands]),he y (by simp [Op.operands]),hx,hy,ht,Q02]
        exact⟨h.1,trivial,trivial⟩
      . rename_i ht hx hy
        simp only[Q02]at h
        obtain⟨h1,h⟩:=h
        split at h
        . rename_i he'
          refine⟨_,h.2,λev2 R2 he=> ?_⟩
          simp only[he x (by simp [Op.operands]),he y (by simp [Op.operands]),hx,hy,ht,Q02,he']
          exact⟨h1,h.1,trivial,trivial⟩
        . rename_i he'
          refine⟨_,h.2,λev2 R2 he=> ?_⟩
          simp only[he x (by simp [Op.operands]),he y (by simp [Op.operands]),hx,hy,ht,Q02,he']
          exact⟨h1,h.1,trivial,trivial⟩
        . rename_i ti n1 n2 he'
          split at h
          . rename_i hag
            obtain⟨kd,_,_,_,_,_⟩:=ti
            simp only[Q02,D.force_iff]at h
            cases kd<;>first
              |(exact(n1 _ _ _ _ _ _ rfl).elim)
              |(exact(n2 _ _ _ _ _ rfl).elim)
              |(exfalso;simp [TK.isAgg]at hag;done)
              | (refine⟨_,h.2,λev2 R2 he=> ?_⟩
                 simp only[he x (by simp [Op.operands]),he y (by simp [Op.operands]),hx,hy,ht,Q02,he',hag,D.force_iff]
                 exact⟨h1,h.1,trivial,trivial⟩)
          . exact h.elim
        . exact h.elim
      . exact h.elim
    . rename_i t x y z hn
      split at hq
      . rename_i str hx
        simp only[opVC,hx]at h⊢
        obtain⟨val,g1,g2⟩:=Qgx h rfl
        refine⟨val,g1,λev2 R2 he=> ?_⟩
        rw[he x (by simp [Op.operands]),hx]
        exact g2 ev2 R2 (λu hu=>he u (by cases hu;simp [Op.operands])) (λu hu=>he u (by cases hu;simp [Op.operands]))
      . rename_i sz es fr hx
        simp only[opVC,hx]at h⊢
        obtain⟨val,g1,g2⟩:=Qgx h rfl
        refine⟨val,g1,λev2 R2 he=> ?_⟩
        rw[he x (by simp [Op.operands]),hx]
        exact g2 ev2 R2 (λu hu=>he u (by cases hu;simp [Op.operands])) (λu hu=>he u (by cases hu;simp [Op.operands]))
      . cases hq
    . rename_i t x y hn
      split at hq
      . rename_i str hx
        simp only[opVC,hx]at h⊢
        obtain⟨val,g1,g2⟩:=Qgx h rfl
        refine⟨val,g1,λev2 R2 he=> ?_⟩
        rw[he x (by simp [Op.operands]),hx]
        exact g2 ev2 R2 (λu hu=>he u (by cases hu;simp [Op.operands])) (λu hu=>he u (by cases hu))
      . rename_i sz es fr hx
        simp only[opVC,hx]at h⊢
        obtain⟨val,g1,g2⟩:=Qgx h rfl
        refine⟨val,g1,λev2 R2 he=> ?_⟩
        rw[he x (by simp [Op.operands]),hx]
        exact g2 ev2 R2 (λu hu=>he u (by cases hu;simp [Op.operands])) (λu hu=>he u (by cases hu))
      . cases hq
    . rename_i t x y hn
      split at hq
      . rename_i str hx
        simp only[opVC,hx]at h⊢
        obtain⟨val,g1,g2⟩:=Qgx h rfl
        refine⟨val,g1,λev2 R2 he=> ?_⟩
        rw[he x (by simp [Op.operands]),hx]
        exact g2 ev2 R2 (λu hu=>he u (by cases hu)) (λu hu=>he u (by cases hu;simp [Op.operands]))
      . rename_i sz es fr hx
        simp only[opVC,hx]at h⊢
        obtain⟨val,g1,g2⟩:=Qgx h rfl
        refine⟨val,g1,λev2 R2 he=> ?_⟩
        rw[he x (by simp [Op.operands]),hx]
        exact g2 ev2 R2 (λu hu=>he u (by cases hu)) (λu hu=>he u (by cases hu;simp [Op.operands]))
      . cases hq
    . rename_i t x y hn
      split at hq
      . rename_i sz es fr hx
        simp only[opVC,hx]at h⊢
        split at h
        . rename_i k n hy
          unfold Qon at h⊢
          split at h
          . rename_i ht
            simp only[Q02]at h
            refine⟨_,h.2,λev2 R2 he=> ?_⟩
            simp only[he x (by simp [Op.operands]),he y (by simp [Op.operands]),hx,hy,ht,Q02]
            exact⟨h.1,trivial,trivial⟩
          . simp only[Q02]at h
            exact h.2.elim
          . exact h.elim
        . exact h.elim
      . cases hq
    . rename_i t x hn
      split at hq
      . rename_i sz es i off hx
        simp only[opVC,hx]at h⊢
        unfold Qfi at h⊢
        split at h
        . exact h.elim
        . rename_i ti ht
          simp only[Q02]at h
          obtain⟨d,g1,g2⟩:=Qkl h.2
          refine⟨d,g1,λev2 R2 he=> ?_⟩
          simp only[he x (by simp [Op.operands]),hx,ht,Q02]
          exact⟨h.1,g2 _ (by simp)⟩
      . cases hq
    . rename_i args tys hn
      split at hq
      . rename_i x hargs
        have hxm:x∈(Op.call {callee:= .builtin .len,args:=args,argTypes:=tys}).operands:=by simp [Op.operands,Call.operands];rw[<-gN,hargs];simp
        simp only[opVC,hargs]at h⊢
        split at h
        . rename_i y t e1 e2
          cases e1
          rw[e2]at*
          split at hq
          . rename_i str hx
            simp only[hx]at h⊢
            unfold lenVC at h⊢
            split at h
            . simp only at h
              exact⟨_,h,λev2 R2 he=>by simp only[he x hxm,hx];simp⟩
            . exact h.elim
            . exact h.elim
          . rename_i sz es fr hx
            simp only[hx]at h⊢
            unfold lenVC at h⊢
            split at h
            . exact h.elim
            . simp only at h
              exact⟨_,h,λev2 R2 he=>by simp only[he x hxm,hx];simp⟩
            . exact h.elim
          . cases hq
        . exact h.elim
      . cases hq
    . cases hq
theorem Quh{env:List (Nat×D)}{op:Op}{q:List Nat}(h:Q8u env op=some q){a:Nat}(ha:Operand.tmp a∈op.operands):a∈q:=by
 unfold Q8u at h
 split at h
 ·cases h;exact Z7j (by assumption) ha
 ·split at h
  all_goals first
   |(cases h;done)
   |(cases h;rw[Q3y];simpa[Op.operands]using ha)
   |(split at h<;>first|(cases h;done)|(cases h;rw[Q3y];simpa[Op.operands]using ha))
   |skip
  split at h
  ·rename_i x hx
   have ha':Operand.tmp a=x:=by
    simp[Op.operands,Call.operands]at ha
    rw[<-gN,hx]at ha
    simpa using ha
   split at h<;>first|(cases h;done)|(cases h;rw[Q3y,ha'];simp)
  ·cases h
theorem Qvj{G:List Q09}{env:List (Nat×D)}{op:Op}{q:List Nat}(h:Q8u env op=some q):isW G op=false/\Qjz op=false/\(∀t x y,op≠.store t x y)/\(∀f args tys,op≠.call ⟨.value (.func f),args,tys⟩)/\∀t,op≠.alloc t:=by
 unfold Q8u at h
 split at h
 ·rename_i q' hp
  obtain⟨h1,h2,h3,h4,h5⟩:=Z18 (G:=G) hp
  exact⟨h1,h2,h4,λ_ _ _=>h5 _,λt e=>by rw[e]at hp;cases hp⟩
 ·split at h<;>first|(cases h;done)|exact⟨rfl,rfl,λ_ _ _ h=>(by cases h),λ_ _ _ h=>(by cases h),λ_ h=>(by cases h)⟩
theorem Zbu{T:Tab}{G:List Q09}{N M:Nat}{o:Oper}{q:List Nat}{st:St}(hq:Q8u st.env o.op=some q){K:St->Prop}(h:doVC T G N M o st K):opVC T o.op (evOp st.env) st.rows λd R=>st.put N o.dst d R K:=by
  obtain⟨dst,op,type,pos,after,guard⟩:=o
  simp only at hq⊢
  unfold Q8u at hq
  split at hq
  . rename_i q' hp
    exact xo (o:=⟨dst,op,type,pos,after,guard⟩) hp h
  . split at hq
    all_goals first
      |(cases hq;done)
      |exact h
      |skip
    . rename_i op' t x y ty hn
      unfold doVC at h
      simp only at h
      split at h
      . rename_i hx hy
        rw[hx]at hq;cases hq
      . rename_i hx hy
        rw[hx]at hq;cases hq
      . exact h
    . rename_i s d x hn
      unfold doVC at h
      simp only at h
      split at h
      . exfalso
        unfold strVC at h
        split at h
        . split at h
          . rename_i he
            split at hq
            . rename_i hx;rw[hx]at he;cases he
            . rename_i hx;rw[hx]at he;cases he
            . cases hq
          . exact h
        . exact h
      . exact h
theorem Z1y{d:D}(h:Qv5 d=true):Q9n d=true:=by cases d<;>first|rfl|cases h
theorem Qvy{ks:List Nat}{d p:D}(hp:Q9n p=true)(h:d.killV ks=p):d=p:=by
 subst h
 cases d<;>first
  |rfl
  |(simp only[D.killV,D.kill,D.kill1]at hp⊢;split at hp<;>first|(cases hp;done)|simp_all)
  |(simp only[D.killV,D.kill,Q9n]at hp⊢;rw[Qgj hp])
  |(simp[D.killV,Q9n]at hp;done)
theorem Zc2{env env':List (Nat×D)}{op:Op}{q:List Nat}(h:Q8u env op=some q)(hb: ∀a∈q,Q9n (look env a)=true->look env' a=look env a):Q8u env' op=some q:=by
  have one: ∀(x:Operand),(∀a,x= .tmp a->a∈q)->Q9n (evOp env x)=true->evOp env' x=evOp env x:=λx hx hs=>by
    cases x with
    |tmp a=>exact hb a (hx a rfl) hs
    |_=>rfl
  unfold Q8u at h⊢
  split at h
  . exact h
  . split at h
    all_goals first
      |(cases h;done)
      |exact h
      |skip
    all_goals
      split at h
      all_goals first
        |(cases h;done)
        | (rename_i hx
           cases h
           first
             |(have:=one _ (λa e=>by rw[Q3y,<-e];exact eD) (by rw[hx];rfl);rw[this,hx])
             |(have:=one _ (λa e=>by rw[Q3y,<-e];simp) (by rw[hx];rfl);rw[this,hx]))
        |skip
    split at h
    all_goals first
      |(cases h;done)
      | (rename_i hx
         cases h
         have:=one _ (λa e=>by rw[Q3y,<-e];exact eD) (by rw[hx];rfl);rw[this,hx])
theorem vo{T:Tab}{M:Nat}{t tx:TypeId}{x y:D}{R:Rows}{K:List Nat->D->Rows->Prop}(h:Zc T M t tx x y R K):
 Zc T M t tx x y R λks d R'=>((Qv5 x=true->ks=[]/\∀r row,R.getD r none=some row->R'.getD r none=some row)/\∀r row,R.getD r none=some row->memB r ks=false->R'.getD r none=some (row.kill ks))/\K ks d R':=by
 have go:∀{e sz by':Nat} {ks0:List Nat} {es ys:Els},(Qv5 x=true->ks0=[])->Qtw e sz by' R ks0 es ys K->Qtw e sz by' R ks0 es ys λks d R'=>((Qv5 x=true->ks=[]/\∀r row,R.getD r none=some row->R'.getD r none=some row)/\∀r row,R.getD r none=some row->memB r ks=false->R'.getD r none=some (row.kill ks))/\K ks d R':=by
  intro e sz by' ks0 es ys hx h
  simp only[Qtw,Q02,Q1h]at h⊢
  have key:∀r row,R.getD r none=some row->memB r ks0=false->(Qip ks0 R 0++[some (⟨false,e,sz,es.app ys⟩:Row)]).getD r none=some (row.kill ks0):=λr row hr hm=>by
   have hl:r<R.length:=by
    by_cases hh:r<R.length
    ·exact hh
    ·simp only[aK,aM (show R.length<=r by omega)]at hr;cases hr
   rw[Qi5 (by rw[Q7g];exact hl),Qjl,hr,Nat.zero_add,hm]
   simp
  refine⟨h.1,⟨λe=>⟨hx e,λr row hr=>?_⟩,key⟩,h.2⟩
  have:=key r row hr (by rw[hx e];rfl)
  rw[this,hx e,Qwe]
 unfold Zc at h⊢
 split at h
 ·split at h
  ·split at h
   ·rename_i hsrc
    simp only[Q02]at h⊢
    refine⟨h.1,?_⟩
    have h:=h.2
    cases x<;>first|(exact h.elim;done)|(exact go (λ_=>rfl) h;done)|skip
    all_goals
     (try simp only at h⊢)
     split at h
     ·exact⟨h.1,go (λe=>by cases e) h.2⟩
     ·exact h.elim
   ·exact h.elim
  ·exact h.elim
 ·exact h.elim
theorem Zav{P:Program}{T:Tab}(hT:Q34 P T){G:List Q09}(hG:Q57 P G){N M:Nat}{ops:Array Oper}{o:Oper}{l:List Oper}{st:St}{K:St->Prop}(h:Qa1 T G N M ops (o::l) st K):
    ∃ks val R' env1,(∀t,look env1 t=look (Q7l ks st.env) t)/\(∀t,o.dst=some t->t<N)/\GOp P G M ops o st.env st.rows ks val R'/\Qa1 T G N M ops l ⟨Qca env1 o.dst val,R'⟩ K/\Fine P G o st.env st.rows ks val R':=by
  by_cases hL: ∃t a r ii off,o.guard=none/\o.op= .load t (.tmp a)/\look st.env a= .ptr r ii off
  . obtain⟨t,a,r,ii,off,hg,ho,ha⟩:=hL
    simp only[Qa1,hg,doVC,ho,opVC,evOp,ha]at h
    obtain⟨d,h1,h2,h3⟩:=Z55 h
    obtain⟨g1,g2⟩:=Q4f h1
    have hN: ∀(ev:Operand->D) (R2:Rows),ev (.tmp a)= .ptr r ii off->R2.getD r none=st.rows.getD r none->OpN P o ev R2 d R2:=λev R2 he hR2=>by
      have:=h3 R2 hR2
      obtain⟨val,R',⟨rfl,rfl⟩,hO⟩:=Quu hT o ev R2 (λd' R'=>d'=d/\R'=R2) (by simp only[ho,opVC,he];exact this)
      simpa [ho,Qjz] using hO
    have hN2: ∀(ev:Operand->D) (R2:Rows) row (L:List (List Nat)),datD d=true->(∀kk∈L,d.kill1 kk=d)->ev (.tmp a)= .ptr r ii off->st.rows.getD r none=some row->R2.getD r none=some (L.foldl (λr k=>Row.kill k r) row)->OpN P o ev R2 d R2:=λev R2 row L hd hL he hr hR2=>by
      have:=Zar (h3 st.rows rfl) hd hL hr hR2
      obtain⟨val,R',⟨rfl,rfl⟩,hO⟩:=Quu hT o ev R2 (λd' R'=>d'=d/\R'=R2) (by simp only[ho,opVC,he];exact this)
      simpa [ho,Qjz] using hO
    refine⟨[],d,st.rows,st.env,λt=>Q17.symm,g1,?_,g2,λt' a' r' ii' off' _ ho' ha'=> ?_,λt' b x r' ii' off' _ ho'=> ?_,λq _ hq=> ?_,λf args tys _ hf _=>by simp [ho]at hf,λt' _ hf=>by simp [ho]at hf,λargs tys _ hf=>by simp [ho]at hf,λargs tys x' l' _ hf=>by simp [ho]at hf⟩
    . unfold GOp
      simp only[hg]
      exact Qt8 (by rw[ho];rfl) (hN _ _ (by simp [evOp,ha]) rfl)
    . rw[ho]at ho';cases ho'
      rw[ha]at ha';cases ha'
      exact⟨rfl,rfl,h2,hN,hN2⟩
    . rw[ho]at ho';cases ho'
    . rw[ho]at hq;simp [Q8u,Q64,evOp,ha]at hq
  . by_cases hS : ∃t b x r ii off,o.guard=none/\o.op= .store t (.tmp b) x/\look st.env b= .ptr r ii off
    . obtain⟨t,b,x,r,ii,off,hg,ho,hb⟩:=hS
      simp only[Qa1,hg,doVC,ho,opVC]at h
      rw[show evOp st.env (.tmp b)= .ptr r ii off by simp [evOp,hb]]at h
      obtain⟨R',h1,h2,h3⟩:=Z31 h
      obtain⟨g1,g2⟩:=Q4f h1
      obtain⟨val,R2,⟨rfl,rfl⟩,hO⟩:=Quu hT o (evOp st.env) st.rows (λd' R2=>d'= .dead/\R2=R') (by simp only[ho,opVC];rw[show evOp st.env (.tmp b)= .ptr r ii off by simp [evOp,hb]];exact h3)
      refine⟨[], .dead,R2,st.env,λt=>Q17.symm,g1,?_,g2,λt' a' r' ii' off' _ ho'=> ?_,λt' b' x' r' ii' off' _ ho' hb'=> ?_,λq _ hq=> ?_,λf args tys _ hf _=>by simp [ho]at hf,λt' _ hf=>by simp [ho]at hf,λargs tys _ hf=>by simp [ho]at hf,λargs tys x' l' _ hf=>by simp [ho]at hf⟩
      . unfold GOp
        simp only[hg]
        have hO':OpW P o (evOp st.env) st.rows .dead R2:=by simpa [ho,Qjz] using hO
        exact Qvm (by rw[ho];rfl) (λk hk=>by simp [memB]at hk) hO'.toK
      . rw[ho]at ho';cases ho'
      . rw[ho]at ho';cases ho'
        rw[hb]at hb';cases hb'
        exact⟨rfl,h2⟩
      . rw[ho]at hq;cases hq
    . by_cases hP : ∃q,o.guard=none/\Q8u st.env o.op=some q
      . obtain⟨q,hg,hq⟩:=hP
        simp only[Qa1,hg]at h
        have hop:=Zbu hq h
        obtain⟨val,hput,hdet⟩:=yo hq hop
        obtain⟨hW,hS',hns,hnc,hna⟩:=Qvj (G:=G) hq
        have hN: ∀(ev:Operand->D) (R2:Rows),(∀x∈o.op.operands,ev x=evOp st.env x)->OpN P o ev R2 val R2:=λev R2 he=>by
          obtain⟨val',R',⟨rfl,rfl⟩,hO⟩:=Quu hT o ev R2 _ (hdet ev R2 he)
          simpa [hS'] using hO
        obtain⟨g1,g2⟩:=Q4f hput
        refine⟨[],val,st.rows,st.env,λt=>Q17.symm,g1,?_,g2,λt' a' r' ii' off' hg' ho' ha'=>(hL ⟨t',a',r',ii',off',hg',ho',ha'⟩).elim,λt' b' x' r' ii' off' _ ho'=>(hns _ _ _ ho').elim,λq' _ hq'=>⟨rfl,rfl,hN⟩,λf args tys _ hf _=>(hnc _ _ _ hf).elim,λt' _ hf=>(hna _ hf).elim,λargs tys _ hf=>by rw[hf]at hq;simp [Q8u,Q64]at hq,λargs tys x' l' _ hf=>by rw[hf]at hq;simp [Q8u,Q64]at hq⟩
        unfold GOp
        simp only[hg]
        exact Qt8 hW (hN _ _ (λ_ _=>rfl))
      . by_cases hC: ∃f args tys,o.guard=none/\o.op= .call ⟨.value (.func f),args,tys⟩/\(Q8t G f=none/\Qx4 G f=false)
        . obtain⟨f,args,tys,hg,ho,hgo,hfz⟩:=hC
          obtain⟨dst,op,type,pos,after,guard⟩:=o
          simp only at hg ho
          subst hg;subst ho
          simp only[Qa1,doVC,hgo,hfz]at h
          have hfz': ∀x,Qf0 G f=some x->x.frz=false:=λx hx=>by simpa [Qx4,hx] using hfz
          obtain⟨val,R',x,hK,hx,hO,hN⟩:=Qxa (dst:=dst) (type:=type) (pos':=pos) (after:=after) (guard:=none) (tys:=tys) hG hgo h
          obtain⟨g1,g2⟩:=Q4f hK
          refine⟨[],_,_,st.env,λt=>Q17.symm,g1,?_,g2,λt' a' r' ii' off' _ ho'=>(by cases ho'),λt' b' x' r' ii' off' _ ho'=>(by cases ho'),λq' _ hq'=>(by cases hq'),λ_ _ _ _ _ _=>rfl,λt' _ hf=>(by cases hf),λargs tys _ hf=>(by cases hf),λargs tys x' l' _ hf=>(by cases hf)⟩
          unfold GOp
          cases hr:x.refs with
          |nil=>exact Qt8 (by simp only[isW,hx,hr,hfz' x hx]) (hN hr)
          |cons b bs=>exact Qvm (by simp only[isW,hx,hr]) (λk hk=>by simp [memB]at hk) hO.toK
        . by_cases hAl: ∃t,o.guard=none/\o.op= .alloc t
          . obtain⟨t,hg,ho⟩:=hAl
            obtain⟨dst,op,type,pos,after,guard⟩:=o
            simp only at hg ho
            subst hg;subst ho
            simp only[Qa1,doVC,opVC]at h
            split at h
            . rename_i ht
              simp only[Q02,aE,Qkk]at h
              obtain⟨⟨h0,hl⟩,h⟩:=h
              obtain⟨g1,g2⟩:=Q4f h
              obtain⟨arr,hA⟩:=Zbf (o:=⟨dst, .alloc t,type,pos,after,none⟩) hT rfl ht (lE h0) (bE hl)
              refine⟨[],_,_,st.env,λt=>Q17.symm,g1,?_,g2,λt' a' r' ii' off' _ ho'=>(by cases ho'),λt' b' x' r' ii' off' _ ho'=>(by cases ho'),λq' _ hq'=>(by cases hq'),λ_ _ _ _ hf=>(by cases hf),λt' _ hf=>⟨rfl,_,arr,hA,rfl,rfl⟩,λargs tys _ hf=>(by cases hf),λargs tys x' l' _ hf=>(by cases hf)⟩
              unfold GOp
              exact Qt8 rfl (Qgk λc w a hm hA' hev=>⟨_,rfl,Z9a hT ht (lE h0) (bE hl) st.rows.length c w⟩)
            . exact h.elim
          by_cases hAp: ∃args tys,o.guard=none/\o.op= .call ⟨.builtin .append,args,tys⟩
          . obtain⟨args,tys,hg,ho⟩:=hAp
            obtain⟨dst,op,type,pos,after,guard⟩:=o
            simp only at hg ho
            subst hg;subst ho
            simp only[Qa1,doVC]at h
            split at h
            . rename_i x y t tx hx1 ht
              have hargs':args= #[x,y]:=by rw[<-bU (xs:=args),hx1]
              have htys:tys= #[t,tx]:=by rw[<-bU (xs:=tys),ht]
              subst hargs';subst htys
              have h':=vo h
              obtain⟨ks,R',⟨⟨hemp,hkill⟩,hK⟩,hM,hr⟩:=Z9y (ty:=type) hT h'
              rw[Qep]at hK
              obtain⟨h1,h2⟩:=Q4f hK
              refine⟨ks,_,_,_,λt=>rfl,h1,?_,h2,λt' a' r' ii' off' _ ho'=>(by cases ho'),λt' b' x' r' ii' off' _ ho'=>(by cases ho'),λq' _ hq'=>(by cases hq'),λ_ _ _ _ hf=>(by cases hf),λt' _ hf=>(by cases hf),λargs tys _ hf r row hr hm=>hkill r row hr hm,λargs tys x' l' _ hf ha he=> ?_⟩
              rotate_left
              . cases hf
                have hx:x= .tmp x':=by
                  have:=congrArg List.head? ha
                  simpa using this
                subst hx
                exact hemp he
              unfold GOp
              refine Qvm rfl hM λc w a hm hb hR hev K' Q hK'=> ?_
              obtain⟨v',w',c',hrun,hn,hR',hv⟩:=hr c w _ _ hm hb hR (hev x (by simp [Op.operands,Call.operands])) (hev y (by simp [Op.operands,Call.operands]))
              refine Qf5 ?_ (hK' v' w' c' hn hR' hv)
              simp only[execOp,resolve,Sem.run_bind,Sem.run_pure,Result.andThen_ok,invoke,builtin]
              have:(#[x,y]:Array Operand).map a.eval= #[a.eval x,a.eval y]:=by simp
              rw[this,hrun];rfl
            . exact h.elim
          obtain⟨ks,val,R',env1,h0,h1,h2,h3⟩:=Qvh hT hG h
          exact⟨ks,val,R',env1,h0,h1,h2,h3,λt a r ii off hg ho ha=>(hL ⟨t,a,r,ii,off,hg,ho,ha⟩).elim,λt b x r ii off hg ho hb=>(hS ⟨t,b,x,r,ii,off,hg,ho,hb⟩).elim,λq hg hq=>(hP ⟨q,hg,hq⟩).elim,λf args tys hg ho hgo=>(hC ⟨f,args,tys,hg,ho,hgo⟩).elim,λt hg ho=>(hAl ⟨t,hg,ho⟩).elim,λargs tys hg ho=>(hAp ⟨args,tys,hg,ho⟩).elim,λargs tys x l' hg ho ha he=>(hAp ⟨args,tys,hg,ho⟩).elim⟩
theorem Qeu{d:D}(h:datD d=true):Q9n d=true:=by cases d<;>first|rfl|exact h|cases h
theorem qp{ks:List Nat}{d:D}{r i off:Nat}(h:d.killV ks=.ptr r i off):d=.ptr r i off:=Qvy rfl h
theorem Qh6{ops:Array Oper}{i a k:Nat}{o:Oper}(h:Q89 ops i a=true)(hk:i<=k)(ho:ops[k]?=some o):o.dst≠some a:=by
 intro hd
 have hm:o∈ops.toList.drop i:=by
  have h1:(ops.toList.drop i)[k-i]?=some o:=by
   rw[List.getElem?_drop,show i+(k-i)=k by omega];simpa using ho
  exact fM h1
 have:=List.all_eq_true.1 h o hm
 simp[hd]at this
theorem Zbz{G:List Q09}{f:FuncId}(h:(match Q8t G f with|some _=>true|none=>Qx4 G f)=false):Q8t G f=none/\Qx4 G f=false:=by
 cases hg:Q8t G f with
 |none=>rw[hg]at h;exact⟨rfl,h⟩
 |some k=>rw[hg]at h;cases h
def PtrC(ops:Array Oper)(env:List (Nat×D))(i:Nat)(o:Oper)(q:List Nat):Prop:=
 (∀a∈q,Q89 ops i a=true/\Q9n (look env a)=true)/\∀t,o.dst=some t->Q89 ops (i+1) t=true/\Q9n (look env t)=true
theorem Qgt{G:List Q09}{ops:Array Oper}{env:List (Nat×D)}{i j:Nat}{x y:Oper}(hx:ops[i]?=some x)(hy:ops[j]?=some y)(h:Zc8 G ops env i j=true):
 (∃t a t' b z r r' ii off ii' off',x.guard=none/\y.guard=none/\x.op=.load t (.tmp a)/\y.op=.store t' (.tmp b) z/\Q89 ops i a=true/\Q89 ops j b=true/\look env a=.ptr r ii off/\look env b=.ptr r' ii' off'/\r≠r')\/
 (∃q,x.guard=none/\y.guard=none/\Q8u env x.op=some q/\(∀a∈q,Q89 ops i a=true)/\((∃t' b z r' ii' off',y.op=.store t' (.tmp b) z/\Q89 ops j b=true/\look env b=.ptr r' ii' off')\/∃f args tys,y.op=.call ⟨.value (.func f),args,tys⟩/\(Q8t G f=none/\Qx4 G f=false)))\/
 (∃q,x.guard=none/\Q8u env x.op=some q/\PtrC ops env i x q)\/
 (∃t a r ii off args tys x0 l,x.guard=none/\y.guard=none/\x.op=.load t (.tmp a)/\Q89 ops i a=true/\look env a=.ptr r ii off/\y.op=.call ⟨.builtin .append,args,tys⟩/\args.toList=.tmp x0::l/\Q89 ops j x0=true/\Qv5 (look env x0)=true)\/
 (∃t a r ii off args tys td,x.guard=none/\y.guard=none/\x.op=.load t (.tmp a)/\Q89 ops i a=true/\look env a=.ptr r ii off/\y.op=.call ⟨.builtin .append,args,tys⟩/\x.dst=some td/\Q89 ops (i+1) td=true/\datD (look env td)=true):=by
 unfold Zc8 at h
 simp only[hx,hy]at h
 split at h
 ·rename_i t a t' b z h1 h2 h3 h4
  simp only[aE]at h
  obtain⟨g1,g2,g3⟩:=h
  split at g3
  ·rename_i r ii off r' ii' off' e1 e2
   refine .inl ⟨t,a,t',b,z,r,r',ii,off,ii',off',h1,h2,h3,h4,g1,g2,e1,e2,λe=>?_⟩
   subst e
   simp at g3
  ·rename_i sz es k off r' ii' off' e1 e2
   exact .inr (.inl ⟨[a],h1,h2,by rw[h3];simp[Q8u,Q64,evOp,e1,Q45],λa' ha=>by simp at ha;subst ha;exact g1,.inl ⟨t',b,z,r',ii',off',h4,g2,e2⟩⟩)
  ·cases g3
 ·rename_i op t' b z h1 h2 h4 _
  split at h
  ·rename_i q hq
   simp only[aE]at h
   obtain⟨g1,g2,g3⟩:=h
   split at g3
   ·rename_i r' ii' off' e2
    exact .inr (.inl ⟨q,h1,h2,hq,λa ha=>List.all_eq_true.1 g1 a ha,.inl ⟨t',b,z,r',ii',off',h4,g2,e2⟩⟩)
   ·cases g3
  ·cases h
 ·rename_i op f tys h1 h2 h4
  split at h
  ·cases h
  ·rename_i hgf
   have hgf':=Zbz hgf
   split at h
   ·rename_i q hq
    exact .inr (.inl ⟨q,by assumption,by assumption,hq,λa ha=>List.all_eq_true.1 h a ha,.inr ⟨_,_,_,by assumption,hgf'⟩⟩)
   ·cases h
 ·rename_i op args tys h1 h2 h4 _
  split at h
  ·rename_i q hq
   simp only[aE]at h
   refine .inr (.inr (.inl ⟨q,by assumption,hq,λa ha=>?_,λt ht=>?_⟩))
   ·have:=List.all_eq_true.1 h.1 a ha
    simpa only[aE]using this
   ·have:=h.2
    simp only[ht,aE]at this
    exact this
  ·have hptr:∀{d:D},isPtrD d=true->∃r ii off,d=.ptr r ii off:=fun{d} k=>by
    cases d<;>first|(cases k;done)|exact⟨_,_,_,rfl⟩
   rcases Bool.or_eq_true_iff.1 h with h|h
   ·unfold empApp at h
    split at h
    ·rename_i t a x0 l hxo hl
     simp only[aE]at h
     obtain⟨k1,k2,k3,k4⟩:=h
     obtain⟨r,ii,off,hr⟩:=hptr k3
     exact .inr (.inr (.inr (.inl ⟨t,a,r,ii,off,tys,h1,x0,l,by assumption,by assumption,hxo,k1,hr,by assumption,hl,k2,k4⟩)))
    ·cases h
   ·unfold datApp at h
    split at h
    ·rename_i t a td hxo hdst
     simp only[aE]at h
     obtain⟨k1,k2,k3,k4⟩:=h
     obtain⟨r,ii,off,hr⟩:=hptr k2
     exact .inr (.inr (.inr (.inr ⟨t,a,r,ii,off,tys,h1,td,by assumption,by assumption,hxo,k1,hr,by assumption,hdst,k3,k4⟩)))
    ·cases h
 ·cases h
theorem Z8h{ops:Array Oper}{j:Nat}{y:Oper}(hy:ops[j]?=some y)(h:allocB ops j=true):(∃t,y.guard=none/\y.op=.alloc t)/\∀u,y.dst=some u->∀k o',k≠j->ops[k]?=some o'->o'.dst≠some u:=by
 unfold allocB at h
 simp only[hy]at h
 split at h
 ·rename_i t h1 h2
  refine⟨⟨t,h1,h2⟩,λu hu k o' hk hok hd=>?_⟩
  simp only[hu]at h
  have hlt:=(Array.getElem?_eq_some_iff.1 hok).1
  have:=List.all_eq_true.1 h k (List.mem_range.2 hlt)
  simp only[hok,aL,hd,aI]at this
  rcases this with this|this
  ·exact hk (bE this)
  ·simp at this
 ·cases h
theorem Q4t{G:List Q09}{ops:Array Oper}{env:List (Nat×D)}(h:Qud G ops env=true){i j:Nat}{x y:Oper}(hij:i<j)(hx:ops[i]?=some x)(hy:ops[j]?=some y):
 (x.apart ops y=true\/((Region.before ops).getD j 0).testBit i=true)/\((Q27 G x.op=true/\Q27 G y.op=true)\/((Region.before ops).getD j 0).testBit i=true\/Zc8 G ops env i j=true\/((∃t,y.guard=none/\y.op=.alloc t)/\∀u,y.dst=some u->∀k o',k≠j->ops[k]?=some o'->o'.dst≠some u)):=by
 have hj:=(Array.getElem?_eq_some_iff.1 hy).1
 have h1:=List.all_eq_true.1 h j (List.mem_range.2 hj)
 simp only[aE]at h1
 have h2:=List.all_eq_true.1 h1.2 i (List.mem_range.2 hij)
 unfold pairOK2 at h2
 simp only[hx,hy,aE,aI]at h2
 exact⟨h2.1,h2.2.elim (λg=>g.elim .inl (λg=>.inr (.inl g))) (λg=>g.elim (λg=>.inr (.inr (.inl g))) (λg=>.inr (.inr (.inr (Z8h hy g)))))⟩
theorem Z4v{G:List Q09}{ops:Array Oper}{env:List (Nat×D)}(h:Qud G ops env=true){j:Nat}{y:Oper}(hy:ops[j]?=some y):∀e∈y.after,Region.binds .any e=true->e.on<j:=by
 have hj:=(Array.getElem?_eq_some_iff.1 hy).1
 have h1:=List.all_eq_true.1 h j (List.mem_range.2 hj)
 simp only[aE,hy]at h1
 intro e he hb
 have:=Array.all_eq_true'.1 h1.1 e he
 simp only[hb,Bool.not_true,Bool.false_or]at this
 exact lE this
theorem zX{P:Program}{G:List Q09}{ops:Array Oper}{M:Nat}{c:Ctx}{w:World}{env:List (Nat×D)}{R:Rows}{a:Act}{i:Nat}{o:Oper}{ks:List Nat}{val:D}{R':Rows}(hi:ops[i]?=some o)
 (hm:Mem c w) (hb:c.base<=w.heap.size) (hR:∀r,c.R r=R.getD r none) (hev:∀t∈o.looksAt ops,Rep c w (look env t) (a.tmps.getD t undef)) (hG:GOp P G M ops o env R ks val R') {K:Act->World->Prop} {Q:Exit->Act->World->Prop}
 (hK:∀v w' c',(∀k,memB k ks=true->M<=k)->NxtK ks c w c' w'->(∀r,c'.R r=R'.getD r none)->Rep c' w' val v->K (a.put o.dst v) w'):wpOp P ops Q i K a w:=by
 have hx:∀x∈o.op.operands,Rep c w (evOp env x) (a.eval x):=λx hx=>by
  cases x with
  |tmp t=>
   refine hev t ?_
   unfold Oper.looksAt
   exact gH _ (List.mem_filterMap.2 ⟨.tmp t,by simpa using hx,rfl⟩)
  |const v=>
   simp only[evOp,Act.eval]
   cases hv:Z3o v with
   |none=>trivial
   |some d=>exact Qjr hv c w
  |global g=>trivial
  |func f=>exact Qgg f
 have run:OpX P G M o (evOp env) R ks val R'->o.wpR P a w K Q:=λhX=>hX.toK.2 c w a hm hb hR hx K Q λv w' c' h1 h2 h3=>hK v w' c' hX.toK.1 h1 h2 h3
 have skip:ks=[]->val=.tup []->R'=R->K (a.put o.dst undef) w:=λe0 e1 e2=>by
  subst e0;subst e1;subst e2
  exact hK undef w c (λk hk=>by simp[memB]at hk) (NxtW.toK ⟨hm,Q2n.refl _ _,Fr.refl _ _,λb hb=>.inl hb,λr row hr v=>.inl ⟨⟨row,hr⟩,v,rfl⟩⟩) hR (Qnf _ _)
 unfold wpOp
 simp only[hi]
 unfold GOp at hG
 cases hg:o.guard with
 |none=>
  simp only[hg]at hG
  have hw:Region.wanted o (yielded ops a.tmps)=true:=by simp[Region.wanted,hg]
  rw[if_pos hw]
  exact run hG
 |some jw=>
  obtain⟨j,want⟩:=jw
  simp only[hg]at hG
  obtain⟨g,h2,hG⟩:=hG
  have hr:=hev g (by
   unfold Oper.looksAt
   refine gG _ ?_
   simp only[hg,h2];simp)
  rcases hG with⟨b,h3,h4⟩|⟨h3,e0,e1,e2⟩
  rotate_left
  ·rw[h3]at hr
   rw[if_neg (by rw[Qhu (o:=o) hg h2 hr];simp)]
   exact skip e0 e1 e2
  rw[h3]at hr
  have hw:=Qni (o:=o) hg h2 hr
  by_cases e:b=want
  ·rw[if_pos e]at h4
   rw[if_pos (by rw[hw];simpa using e)]
   exact run h4
  ·rw[if_neg e]at h4
   rw[if_neg (by rw[hw];simpa using e)]
   exact skip h4.1 h4.2.1 h4.2.2
structure Z8m(P:Program)(G:List Q09)(N M:Nat)(ops:Array Oper)(s:Nat->St)(ks:Nat->List Nat)(val:Nat->D):Prop extends Chain P G N M ops s ks val where
 fine:∀(i:Nat) (o:Oper),ops[i]?=some o->Fine P G o (s i).env (s i).rows (ks i) (val i) (s (i+1)).rows
theorem Z5w{P:Program}{T:Tab}(hT:Q34 P T){G:List Q09}(hG:Q57 P G){N M:Nat}{ops:Array Oper}{K:St->Prop}:∀(l:List Oper) (k:Nat) (st:St),ops.toList.drop k=l->Qa1 T G N M ops l st K->
 ∃ (s:Nat->St) (ks:Nat->List Nat) (val:Nat->D),s k=st/\K (s (k+l.length))/\(∀(i:Nat) (o:Oper),k<=i->ops[i]?=some o->GOp P G M ops o (s i).env (s i).rows (ks i) (val i) (s (i+1)).rows)/\
  (∀(i:Nat) (o:Oper) (t:Nat),k<=i->ops[i]?=some o->look (s (i+1)).env t=if o.dst=some t then val i else look (Q7l (ks i) (s i).env) t)/\(∀(i:Nat) (o:Oper) (t:Nat),k<=i->ops[i]?=some o->o.dst=some t->t<N)/\
  (∀(i:Nat) (o:Oper),k<=i->ops[i]?=some o->Fine P G o (s i).env (s i).rows (ks i) (val i) (s (i+1)).rows)
 |[],k,st,hk,h=>by
  have hlen:ops.size<=k:=by
   have:=congrArg List.length hk
   simp at this;omega
  have no:∀(i:Nat) (o:Oper),k<=i->ops[i]?=some o->False:=λi o hi ho=>by
   have:=(Array.getElem?_eq_some_iff.1 ho).1;omega
  exact⟨λ_=>st,λ_=>[],λ_=>.dead,rfl,h,λi o hi ho=>(no i o hi ho).elim,λi o t hi ho=>(no i o hi ho).elim,λi o t hi ho=>(no i o hi ho).elim,λi o hi ho=>(no i o hi ho).elim⟩
 |o ::l,k,st,hk,h=>by
  have hlt:k<ops.toList.length:=by
   by_cases hlt:k<ops.toList.length
   ·exact hlt
   ·rw[List.drop_eq_nil_of_le (by omega)]at hk;cases hk
  rw[List.drop_eq_getElem_cons hlt]at hk
  have ho:ops[k]?=some o:=by
   have:=(List.cons.inj hk).1
   rw[<-this]
   simp at hlt
   simp[hlt]
  obtain⟨kk,v,R',env1,h1,h2,h3,h4,h5⟩:=Zav hT hG h
  obtain⟨s,ks,val,g1,g2,g3,g4,g5,g6⟩:=Z5w hT hG l (k+1) _ (List.cons.inj hk).2 h4
  refine⟨λi=>if i=k then st else s i,λi=>if i=k then kk else ks i,λi=>if i=k then v else val i,by simp,?_,λi p hi hp=>?_,λi p t hi hp=>?_,λi p t hi hp hd=>?_,λi p hi hp=>?_⟩
  ·simp only[List.length_cons]
   rw[if_neg (by omega),show k+(l.length+1)=k+1+l.length by omega]
   exact g2
  ·by_cases e:i=k
   ·subst e
    rw[ho]at hp;cases hp
    simp only[if_true,show¬i+1=i by omega,if_false,g1]
    exact h3
   ·simp only[if_neg e,if_neg (show¬i+1=k by omega)]
    exact g3 i p (by omega) hp
  ·by_cases e:i=k
   ·subst e
    rw[ho]at hp;cases hp
    simp only[if_true,show¬i+1=i by omega,if_false,g1]
    cases hdst:o.dst with
    |none=>simp[Qca,h1]
    |some u=>simp only[Qca,Q9e,Option.some.injEq,h1]
   ·simp only[if_neg e,if_neg (show¬i+1=k by omega)]
    exact g4 i p t (by omega) hp
  ·by_cases e:i=k
   ·subst e
    rw[ho]at hp;cases hp
    exact h2 t hd
   ·exact g5 i p t (by omega) hp hd
  ·by_cases e:i=k
   ·subst e
    rw[ho]at hp;cases hp
    simp only[if_true,show¬i+1=i by omega,if_false,g1]
    exact h5
   ·simp only[if_neg e,if_neg (show¬i+1=k by omega)]
    exact g6 i p (by omega) hp
section
variable {P:Program} {G:List Q09} {N M:Nat} {ops:Array Oper} {s:Nat->St} {ks:Nat->List Nat} {val:Nat->D} (hc:Z8m P G N M ops s ks val)
include hc
theorem Qbt{i a r ii off:Nat}(hn:Q89 ops i a=true)(h:look (s ops.size).env a=.ptr r ii off):∀{k:Nat},i<=k->k<=ops.size->look (s k).env a=.ptr r ii off:=by
 intro k hik hk
 obtain⟨n,hn'⟩:∃n,ops.size=k+n:=⟨ops.size-k,by omega⟩
 have:∀n k,i<=k->k+n<=ops.size->look (s (k+n)).env a=.ptr r ii off->look (s k).env a=.ptr r ii off:=by
  intro n
  induction n with
  |zero=>intro k _ _ h;exact h
  |succ n ih=>
   intro k h1 h2 h3
   have ho:ops[k]?=some ops[k]:=aJ (by omega)
   have h4:=ih (k+1) (by omega) (by omega) (by rw[show k+1+n=k+(n+1) by omega];exact h3)
   rw[hc.env k _ a ho,if_neg (Qh6 hn h1 ho),Q7b]at h4
   exact qp h4
 exact this n k hik (by omega) (by rw[<-hn'];exact h)
theorem Q50{i a:Nat}(hn:Q89 ops i a=true)(h:Q9n (look (s ops.size).env a)=true):∀{k:Nat},i<=k->k<=ops.size->look (s k).env a=look (s ops.size).env a:=by
 intro k hik hk
 obtain⟨n,hn'⟩:∃n,ops.size=k+n:=⟨ops.size-k,by omega⟩
 have:∀n k,i<=k->k+n<=ops.size->∀p,Q9n p=true->look (s (k+n)).env a=p->look (s k).env a=p:=by
  intro n
  induction n with
  |zero=>intro k _ _ p _ h;exact h
  |succ n ih=>
   intro k h1 h2 p hp h3
   have ho:ops[k]?=some ops[k]:=aJ (by omega)
   have h4:=ih (k+1) (by omega) (by omega) p hp (by rw[show k+1+n=k+(n+1) by omega];exact h3)
   rw[hc.env k _ a ho,if_neg (Qh6 hn h1 ho),Q7b]at h4
   exact Qvy hp h4
 exact this n k hik (by omega) _ h (by rw[<-hn'])
theorem Z21{i:Nat}{op:Op}{q:List Nat}(h:Q8u (s ops.size).env op=some q)(hq:∀a∈q,Q89 ops i a=true){k:Nat}(h1:i<=k)(h2:k<=ops.size):Q8u (s k).env op=some q:=
 Zc2 h λa ha hs=>Q50 hc (hq a ha) hs h1 h2
theorem Qq{lst:Nat->Bool}{c:Nat}{t:Nat}:∀{n:Nat},(∀i o,i<n->ops[c+i]?=some o->o.dst=some t->lst (c+i)=false)->envS ops s val lst c n t=look (s c).env t
 |0,_=>rfl
 |n + 1,h=>by
  simp only[envS]
  rw[if_neg]
  ·exact Qq (λi o hi=>h i o (by omega))
  ·rintro⟨g1,g2⟩
   cases hk:ops[c+n]? with
   |none=>rw[hk]at g2;cases g2
   |some o=>
    rw[hk]at g2
    rw[h n o (by omega) hk g2]at g1;cases g1
theorem Z3r{lst:Nat->Bool}{c d:Nat}{t:Nat}(hq:∀(i:Nat) (o:Oper),c<=i->i<d->ops[i]?=some o->Q27 G o.op=true)(hd:d<=ops.size):∀{n:Nat},c+n<=d->(∀i o,i<n->ops[c+i]?=some o->o.dst=some t->lst (c+i)=true)->envS ops s val lst c n t=look (s (c+n)).env t
 |0,_,_=>rfl
 |n +1,hn,hl=>by
  have ho:ops[c+n]?=some ops[c+n]:=aJ (by omega)
  simp only[envS,ho,aL]
  rw[show c+(n+1)=(c+n)+1 by omega,hc.toChain.envQ ho (hq _ _ (by omega) (by omega) ho) t]
  by_cases hd':ops[c+n].dst=some t
  ·rw[if_pos ⟨hl n _ (by omega) ho hd',hd'⟩,if_pos hd']
  ·rw[if_neg (λg=>hd' g.2),if_neg hd']
   exact Z3r hq hd (by omega) (λi o hi=>hl i o (by omega))
theorem Qzd{lst:Nat->Bool}{c d:Nat}(hq:∀(i:Nat) (o:Oper),c<=i->i<d->ops[i]?=some o->Q27 G o.op=true)(hd:d<=ops.size):∀{n:Nat},c+n<=d->(∀i,i<n->lst (c+i)=true\/(s (c+i+1)).rows=(s (c+i)).rows)->∀r,Q6t s lst c n r=(s (c+n)).rows.getD r none
 |0,_,_,r=>rfl
 |n + 1,hn,hl,r=>by
  simp only[Q6t]
  rw[show c+(n+1)=c+n+1 by omega]
  have hlen:=Qkc hc.toChain hq hd (show c<=c+n by omega) (show c+n<=c+n+1 by omega) (by omega)
  have ih:=Qzd hq hd (n:=n) (by omega) (λi hi=>hl i (by omega)) r
  rcases hl n (by omega)with h|h
  ·simp only[h,true_and]
   split
   ·rfl
   ·rw[ih]
    by_cases h2:r<(s (c+n)).rows.length
    ·exact(Qkm hc.toChain hq hd (by omega) (by omega) (by omega) h2).symm
    ·simp only[aK]
     rw[aM (by omega),aM (by omega)]
  ·rw[if_neg (by rw[h];omega),ih,h]
theorem Z5c{lst:Nat->Bool}{c d:Nat}(hq:∀(i:Nat) (o:Oper),c<=i->i<d->ops[i]?=some o->Q27 G o.op=true)(hd:d<=ops.size){r:Nat}(hr:r<(s c).rows.length):∀{n:Nat},c+n<=d->Q6t s lst c n r=(s c).rows.getD r none
 |0,_=>rfl
 |n+1,hn=>by
  simp only[Q6t]
  have hlen:=Qkc hc.toChain hq hd (show c<=c by omega) (show c<=c+n by omega) (by omega)
  rw[if_neg (by omega)]
  exact Z5c hq hd hr (by omega)
end
structure Loose(w0:World)(cx:Ctx)(w:World)(b:Nat)(arr:Array Value)(ty:TypeId):Prop where
 old:w0.heap.size<=b
 lt:b<w.heap.size
 here:w.heap[b]?=some (.cells arr ty (0,0))
 imm:¬cx.I b
 row:∀r row,cx.R r=some row->¬cx.V r->cx.ρ r≠b
theorem Loose.keep{w0 w w':World}{c c':Ctx}{ks:List Nat}{b:Nat}{arr:Array Value}{ty:TypeId}(h:Loose w0 c w b arr ty)(n:NxtK ks c w c' w'):Loose w0 c' w' b arr ty:=by
 refine⟨h.old,bJ h.lt n.fr.size,(n.fr.heap b h.lt fun⟨r,x,h1,h2,h3⟩=>h.row r x h1 h2 h3).trans h.here,λhb=>?_,λr row hr hv e=>?_⟩
 ·rcases n.imm b hb with g|⟨s,x,_,g1,g2,g3⟩|g
  ·exact h.imm g
  ·exact h.row s x g1 g2 g3
  ·have:=h.lt;omega
 ·rcases n.rho r row hr hv with⟨⟨x,g1⟩,g2,g3⟩|⟨s,x,_,g1,g2,g3⟩|g
  ·exact h.row r x g1 g2 (by rw[<-g3];exact e)
  ·exact h.row s x g1 g2 (by rw[<-g3];exact e)
  ·have:=h.lt;omega
theorem xp{a:Act}{o:Oper}{v:Value}{u:Nat}(h:o.dst≠some u):(a.put o.dst v).tmps.getD u undef=a.tmps.getD u undef:=by
 cases ho:o.dst with
 |none=>simp[Act.put]
 |some x=>
  have hne:x≠u:=λe=>h (by rw[ho,e])
  simp[Act.put,aQ hne]
theorem zH{a:Act}{dst:Option Tmp}{v:Value}{u:Nat}(h:dst=some u)(hlt:u<a.tmps.size):(a.put dst v).tmps.getD u undef=v:=by
 subst h
 simp[Act.put,aP,hlt]
def Qqn(P:Program)(ops:Array Oper)(s:Nat->St)(val:Nat->D)(w0:World)(cx:Ctx)(w:World)(a:Act)(i b:Nat):Prop:=
 ∃ o t row arr,ops[i]?=some o/\o.guard=none/\o.op=.alloc t/\Z3h P o row arr/\val i=.ptr (s i).rows.length 0 0/\(s (i+1)).rows=(s i).rows++[some row]/\Loose w0 cx w b arr row.ty/\
  (∀u,o.dst=some u->a.tmps.getD u undef=.pointer (some ⟨b,0,none⟩))/\∀u,o.dst=some u->∀k o',k≠i->ops[k]?=some o'->o'.dst≠some u
theorem Qqn.keep{P:Program}{ops:Array Oper}{s:Nat->St}{val:Nat->D}{w0 w w':World}{c c':Ctx}{ks:List Nat}{a:Act}{i k b:Nat}{o:Oper}{v:Value}(h:Qqn P ops s val w0 c w a k b)(n:NxtK ks c w c' w')(hik:i≠k)(ho:ops[i]?=some o):Qqn P ops s val w0 c' w' (a.put o.dst v) k b:=by
 obtain⟨o',t,row,arr,g1,g2,g3,g4,g5,g6,g7,g8,g9⟩:=h
 exact⟨o',t,row,arr,g1,g2,g3,g4,g5,g6,g7.keep n,λu hu=>by rw[xp (g9 u hu i o hik ho)];exact g8 u hu,g9⟩
theorem Qk5{c:Ctx}{w:World}(hm:Mem c w)(o:Obj):Q2n c w c (w.alloc o):=
 ⟨rfl,aO _,λb hb=>⟨hb,Q5j w o b (hm.imm b hb).1⟩,λr x hr=>⟨x,hr,rfl,rfl,rfl,rfl,rfl,Iff.rfl,λnv arr ha=>⟨arr,by rw[Q5j w o _ (hm.lt hr nv)];exact ha,rfl⟩⟩⟩
theorem Qov(w:World)(o:Obj):(w.alloc o).heap.size=w.heap.size+1:=by show(w.heap.push o).size=_;simp
theorem Zb9{c:Ctx}{w:World}(hm:Mem c w)(o:Obj):Mem c (w.alloc o):=
 ⟨λr row hr=>Q2a (Qk5 hm o) rfl Iff.rfl (λnv=>Q5j w o _ (hm.lt hr nv)) (hm.row r row hr),hm.inj,(λb hb=>⟨by have:=(hm.imm b hb).1;rw[Qov];omega,(hm.imm b hb).2⟩),by have:=hm.top;rw[Qov];omega,hm.tab.mono (Qk5 hm o).I⟩
theorem Z4f{c:Ctx}{w:World}{k:Nat}(hk:c.R k=none)(row:Row)(b:Nat):Q2n c w (c.add k row b) w:=by
 refine⟨rfl,aO _,λb hb=>⟨hb,rfl⟩,λr x hr=>?_⟩
 have hne:r≠k:=λe=>by rw[e,hk]at hr;cases hr
 exact⟨x,by simp[Ctx.add,hne,hr],rfl,rfl,rfl,rfl,by simp[Ctx.add,hne],by simp[Ctx.add,hne],λnv arr ha=>⟨arr,ha,rfl⟩⟩
theorem yX{P:Program}{o:Oper}{c:Ctx}{w w0:World}(hm:Mem c w){k:Nat}(hk:c.R k=none){row:Row}{b:Nat}{arr:Array Value}(hA:Z3h P o row arr)(hl:Loose w0 c w b arr row.ty):Mem (c.add k row b) w:=by
 have hg:=Z4f (w:=w) hk row b
 have old:∀r x,r≠k->(c.add k row b).R r=some x->c.R r=some x/\(c.add k row b).ρ r=c.ρ r/\((c.add k row b).V r↔c.V r):=λr x e h=>⟨by simpa[Ctx.add,e]using h,by simp[Ctx.add,e],by simp[Ctx.add,e]⟩
 refine⟨λr x hr=>?_,λr s x y hr hs v1 v2 he=>?_,λb' hb=>⟨(hm.imm b' hb).1,λr x hr v=>?_⟩,hm.top,hm.tab⟩
 ·by_cases e:r=k
  ·subst e
   simp only[Ctx.add,if_true,Option.some.injEq]at hr
   subst hr
   obtain⟨e,h1,h2,h3,h4⟩:=hA.cells
   refine .inr ⟨by simp[Ctx.add],arr,by simp only[Ctx.add,if_true];exact hl.here,hA.sz,?_⟩
   rw[if_pos hA.box]
   exact⟨e,h1,h2,h3,h4 _ _⟩
  ·obtain⟨g1,g2,g3⟩:=old r x e hr
   exact Q2a hg g2 g3 (λ_=>rfl) (hm.row r x g1)
 ·by_cases e1:r=k<;>by_cases e2:s=k
  ·rw[e1,e2]
  ·obtain⟨g1,g2,g3⟩:=old s y e2 hs
   exfalso
   refine hl.row s y g1 (λe=>v2 (g3.2 e)) ?_
   rw[<-g2,<-he,e1];simp[Ctx.add]
  ·obtain⟨g1,g2,g3⟩:=old r x e1 hr
   exfalso
   refine hl.row r x g1 (λe=>v1 (g3.2 e)) ?_
   rw[<-g2,he,e2];simp[Ctx.add]
  ·obtain⟨g1,g2,g3⟩:=old r x e1 hr
   obtain⟨k1,k2,k3⟩:=old s y e2 hs
   exact hm.inj r s x y g1 k1 (λe=>v1 (g3.2 e)) (λe=>v2 (k3.2 e)) (by rw[<-g2,<-k2];exact he)
 ·by_cases e:r=k
  ·subst e
   simp only[Ctx.add,if_true]
   intro e;subst e
   exact hl.imm hb
  ·obtain⟨g1,g2,g3⟩:=old r x e hr
   rw[g2];exact(hm.imm b' hb).2 r x g1 (λe=>v (g3.2 e))
def DatC(ops:Array Oper)(env:List (Nat×D))(i:Nat)(o:Oper):Prop:=∃td,o.dst=some td/\Q89 ops (i+1) td=true/\datD (look env td)=true
def Late(ops:Array Oper)(s:Nat->St)(ks:Nat->List Nat)(i c:Nat):Prop:=
 (∃o t a r ii off row row',ops[i]?=some o/\o.guard=none/\o.op=.load t (.tmp a)/\Q89 ops i a=true/\look (s ops.size).env a=.ptr r ii off/\(s i).rows.getD r none=some row/\(s c).rows.getD r none=some row'/\((row'=row/\∀k,i<k->k<c->ks k=[])\/(DatC ops (s ops.size).env i o/\∃L:List (List Nat),row'=L.foldl (λr k=>Row.kill k r) row/\∀kk∈L,∃j,i<j/\j<c/\kk=ks j)))\/
 (∃o q,ops[i]?=some o/\o.guard=none/\Q8u (s ops.size).env o.op=some q/\(∀a∈q,Q89 ops i a=true)/\((∀k,i<k->k<c->ks k=[])\/PtrC ops (s ops.size).env i o q))
structure Inv2(P:Program)(G:List Q09)(N M:Nat)(ops:Array Oper)(s:Nat->St)(ks:Nat->List Nat)(val:Nat->D)(c0:Ctx)(w0:World)(lst:Nat->Bool)(a:Act)(w:World)(c d:Nat):Prop where
 cd:c<=d
 dn:d<=ops.size
 pre:∀i,i<c->lst i=true\/Late ops s ks i c
 quiet:∀(i:Nat) (o:Oper),c<=i->i<d->ops[i]?=some o->Q27 G o.op=true
 wr:∀(o:Oper),ops[d]?=some o->Q27 G o.op=false
 closed:∀j,lst j=true->∀(o:Oper),ops[j]?=some o->∀e∈o.after,Region.binds .any e=true->lst e.on=true
 size:N<=a.tmps.size
 defers:Qa0 w0.heap.size w a.defers
 base0:c0.base<=w0.heap.size
 own0:∀r row,c0.R r=some row->r<M
 ctx:∃(cx:Ctx) (B:Nat->Nat),Mem cx w/\(∀r,cx.R r=Q6t s lst c (d-c) r)/\(∀t,(∀k o,k<c->lst k=false->ops[k]?=some o->o.dst≠some t)->(∀k o,d<=k->lst k=true->ops[k]?=some o->o.dst≠some t)->Rep cx w (envS ops s val lst c (d-c) t) (a.tmps.getD t undef))/\Qpi c0 w0 cx w/\
  (∀i,d<=i->lst i=true->Qqn P ops s val w0 cx w a i (B i))/\(∀i j,d<=i->d<=j->lst i=true->lst j=true->B i=B j->i=j)
theorem Z3g{c':Ctx}{w':World}{a:Act}{o:Oper}{t:Nat}{d:D}{v:Value}{N:Nat}(hs:N<=a.tmps.size)(hd:∀u,o.dst=some u->u<N)(h1:o.dst=some t->Rep c' w' d v)(h2:o.dst≠some t->Rep c' w' d (a.tmps.getD t undef)):Rep c' w' d ((a.put o.dst v).tmps.getD t undef):=by
 cases ho:o.dst with
 |none=>simpa[Act.put]using h2 (by rw[ho];simp)
 |some u=>
  by_cases e:u=t
  ·subst e
   have hu:u<a.tmps.size:=bJ (hd u ho) hs
   simpa[Act.put,aP,hu]using h1 ho
  ·have:=h2 (by rw[ho];intro h;exact e (Option.some.inj h))
   simpa[Act.put,aQ e]using this
theorem adopt{P:Program}{G:List Q09}{N M:Nat}{ops:Array Oper}{s:Nat->St}{ks:Nat->List Nat}{val:Nat->D}(hc:Z8m P G N M ops s ks val){c0:Ctx}{w0 w:World}{lst:Nat->Bool}{a:Act}{c d:Nat}
 (hq:∀(i:Nat) (o:Oper),c<=i->i<d->ops[i]?=some o->Q27 G o.op=true) (hd:d<=ops.size)
 (h:∃(cx:Ctx) (B:Nat->Nat),Mem cx w/\(∀r,cx.R r=(s c).rows.getD r none)/\(∀t,(∀k o,k<c->lst k=false->ops[k]?=some o->o.dst≠some t)->(∀k o,c<=k->lst k=true->ops[k]?=some o->o.dst≠some t)->Rep cx w (look (s c).env t) (a.tmps.getD t undef))/\Qpi c0 w0 cx w/\
  (∀i,c<=i->lst i=true->Qqn P ops s val w0 cx w a i (B i))/\(∀i j,c<=i->c<=j->lst i=true->lst j=true->B i=B j->i=j)):
 ∀ n,c+n<=d->∃(cx:Ctx) (B:Nat->Nat),Mem cx w/\(∀r,cx.R r=Q6t s lst c n r)/\(∀t,(∀k o,k<c->lst k=false->ops[k]?=some o->o.dst≠some t)->(∀k o,c+n<=k->lst k=true->ops[k]?=some o->o.dst≠some t)->Rep cx w (envS ops s val lst c n t) (a.tmps.getD t undef))/\Qpi c0 w0 cx w/\
  (∀i,c+n<=i->lst i=true->Qqn P ops s val w0 cx w a i (B i))/\(∀i j,c+n<=i->c+n<=j->lst i=true->lst j=true->B i=B j->i=j):=by
 have hlen:∀k l,c<=k->k<=l->l<=d->(s k).rows.length<=(s l).rows.length:=λk l h1 h2 h3=>Qkc hc.toChain hq hd h1 h2 h3
 have hfree:∀n,c+n<=d->∀r,(s (c+n)).rows.length<=r->Q6t s lst c n r=none:=by
  intro n
  induction n with
  |zero=>intro _ r hr;simp only[Q6t];simp only[bH]at hr;rw[aK,aM hr];rfl
  |succ n ih=>
   intro hn r hr
   simp only[Q6t]
   have:=hlen (c+n) (c+n+1) (by omega) (by omega) (by omega)
   rw[show c+(n+1)=c+n+1 by omega]at hr
   rw[if_neg (by omega)]
   exact ih (by omega) r (by omega)
 intro n
 induction n with
 |zero=>intro _;simpa only[Q6t,envS,bH]using h
 |succ n ih=>
  intro hn
  obtain⟨cx,B,hm,hR,hE,hre,hear,hdis⟩:=ih (by omega)
  cases hl:lst (c+n)with
  |false=>
   refine⟨cx,B,hm,λr=>?_,λt ht he=>?_,hre,λi hi hli=>hear i (by omega) hli,λi j hi hj=>hdis i j (by omega) (by omega)⟩
   ·simp only[Q6t,hl,aN,false_and,if_false];exact hR r
   ·simp only[envS,hl,aN,false_and,if_false]
    refine hE t ht λk o hk hlk=>he k o ?_ hlk
    by_cases e:k=c+n
    ·rw[e,hl]at hlk;cases hlk
    ·omega
  |true=>
   obtain⟨o,ty,row,arr,g1,g2,g3,g4,g5,g6,g7,g8,g9⟩:=hear (c+n) (aO _) hl
   have hk:cx.R (s (c+n)).rows.length=none:=by rw[hR];exact hfree n (by omega) _ (aO _)
   have hg:=Z4f (w:=w) hk row (B (c+n))
   refine⟨cx.add (s (c+n)).rows.length row (B (c+n)),B,yX hm hk g4 g7,λr=>?_,λt ht he=>?_,⟨hre.grows.trans hg,hre.fr,hre.imm,λr x hr hv=>?_,hre.xb⟩,λi hi hli=>?_,λi j hi hj=>hdis i j (by omega) (by omega)⟩
   ·simp only[Q6t,hl,true_and,g6,lA,List.length_singleton]
    by_cases e:r=(s (c+n)).rows.length
    ·subst e
     rw[if_pos ⟨aO _,Nat.lt_succ_self _⟩]
     simp[Ctx.add,aK]
    ·rw[if_neg (by omega)]
     simp only[Ctx.add,if_neg e];exact hR r
   ·simp only[envS,hl,true_and,g1,aL]
    split
    ·rename_i hdst
     rw[g8 t hdst,g5]
     obtain⟨e,q1,_⟩:=g4.cells
     exact⟨row,(Ctx.add_self _ _ _ _).1,by simp[Ctx.add],by rw[q1];simp[Els.l],by simp[(Ctx.add_self _ _ _ _).2]⟩
    ·rename_i hdst
     refine Q8b hg (hE t ht λk o' hk' hlk hok=>?_)
     by_cases e:k=c+n
     ·subst e;rw[g1]at hok;cases hok;exact hdst
     ·exact he k o' (by omega) hlk hok
   ·by_cases e:r=(s (c+n)).rows.length
    ·right;right
     rw[e];simp only[Ctx.add,if_true];exact g7.old
    ·have hr':cx.R r=some x:=by simpa[Ctx.add,e]using hr
     have hv':¬cx.V r:=by simpa[Ctx.add,e]using hv
     have:=hre.rho r x hr' hv'
     simpa only[Ctx.add,if_neg e]using this
   ·obtain⟨o',t',row',arr',f1,f2,f3,f4,f5,f6,f7,f8,f9⟩:=hear i (by omega) hli
    refine⟨o',t',row',arr',f1,f2,f3,f4,f5,f6,⟨f7.old,f7.lt,f7.here,f7.imm,λr x hr hv e'=>?_⟩,f8,f9⟩
    by_cases e:r=(s (c+n)).rows.length
    ·rw[e]at e'
     simp only[Ctx.add,if_true]at e'
     have:=hdis (c+n) i (aO _) (by omega) hl hli e'
     omega
    ·exact f7.row r x (by simpa[Ctx.add,e]using hr) (by simpa[Ctx.add,e]using hv) (by simpa only[Ctx.add,if_neg e]using e')
section
variable {P:Program} {G:List Q09} {N M:Nat} {ops:Array Oper} {s:Nat->St} {ks:Nat->List Nat} {val:Nat->D} (hc:Z8m P G N M ops s ks val) (hdr:Qud G ops (s ops.size).env=true)
include hc hdr
theorem zp {c0 :Ctx}{w0:World}{lst lst':Nat->Bool}{a:Act}{w:World}{c d i:Nat}{o:Oper}(hI:Inv2 P G N M ops s ks val c0 w0 lst a w c d)(ho:ops[i]? =some o)(h0:lst i=false)(h1:lst' i=true)(h2: ∀k,k≠i->lst' k=lst k)
    (hrd: ∀e∈o.after,Region.binds .any e=true->lst e.on=true) {K:Act->World->Prop} {Q:Exit->Act->World->Prop} (hK: ∀a' w' c' d',Inv2 P G N M ops s ks val c0 w0 lst' a' w' c' d'->K a' w'):wpOp P ops Q i K a w:=by
  have hlt:=(Array.getElem?_eq_some_iff.1 ho).1
  have hbef: ∀k,((Region.before ops).getD i 0).testBit k=true->lst k=true:=λk hk=>
    Qd8 (listed:=λk=>lst k=true) hI.closed (λo' ho'=>by rw[ho]at ho';cases ho';exact hrd) hk
  have hbef': ∀j k,lst j=true->((Region.before ops).getD j 0).testBit k=true->lst k=true:=λj k hj hk=>
    Qd8 (listed:=λk=>lst k=true) hI.closed (hI.closed j hj) hk
  have hcl': ∀j,lst' j=true-> ∀(o:Oper),ops[j]? =some o-> ∀e∈o.after,Region.binds .any e=true->lst' e.on=true:=by
    intro j hj o' ho' e he hb
    have hne:lst e.on=true:=by
      by_cases e':j=i
      . subst e';rw[ho]at ho';cases ho';exact hrd e he hb
      . rw[h2 j e']at hj;exact hI.closed j hj o' ho' e he hb
    rw[h2 e.on (λe'=>by rw[e',h0]at hne;cases hne)]
    exact hne
  have hld: ∀{x:Oper} {t:TypeId} {y:Operand},x.op= .load t y->Q27 G x.op=true:=λh=>by rw[h];rfl
  have hpu: ∀{x:Oper} {env:List (Nat×D)} {q:List Nat},Q8u env x.op=some q->Q27 G x.op=true:=λh=>by
    unfold Q27;rw[(Qvj (G:=G) h).1];rfl
  have hal: ∀{x:Oper} {t:TypeId},x.op= .alloc t->Q27 G x.op=true:=λh=>by rw[h];rfl
  obtain⟨cx,B,hm,hR,hE,hre,hear,hdis⟩:=hI.ctx
  have hd0:lst d=false:=by
    cases hl:lst d with
    |false=>rfl
    | true=>
      obtain⟨o',t,_,_,g1,_,g3,_⟩:=hear d (aO _) hl
      have:=hI.wr _ g1
      rw[hal g3]at this;cases this
  have hid:i<=d\/(d<i/\(∃t,o.guard=none/\o.op= .alloc t)/\ ∀u,o.dst=some u-> ∀k o',k≠i->ops[k]? =some o'->o'.dst≠some u):=by
    by_cases h:i<=d
    . exact .inl h
    . right
      have hod:ops[d]? =some ops[d]:=aJ (by omega)
      have:=(Q4t hdr (show d<i by omega) hod ho).2
      rcases this with⟨hq,_⟩|hb|hb|hb
      . rw[hI.wr _ hod]at hq;cases hq
      . have:=hbef d hb
        rw[hd0]at this;cases this
      . rcases Qgt hod ho hb with⟨t,b,t',b',z,r,r',ii,off,ii',off',g1,g2,g3,_⟩|⟨q,g1,g2,g3,_⟩|⟨q,g1,g3,_⟩|⟨_,_,_,_,_,_,_,_,_,g1,g2,g3,_⟩|⟨_,_,_,_,_,_,_,_,g1,g2,g3,_⟩
        . have:=hld g3
          rw[hI.wr _ hod]at this;cases this
        . have:=hpu g3
          rw[hI.wr _ hod]at this;cases this
        . have:=hpu g3
          rw[hI.wr _ hod]at this;cases this
        . have:=hld g3
          rw[hI.wr _ hod]at this;cases this
        . have:=hld g3
          rw[hI.wr _ hod]at this;cases this
      . exact⟨by omega,hb⟩
  have hcd:=hI.cd
  have hdn:=hI.dn
  have hbase:cx.base<=w.heap.size:=by rw[hre.grows.base];exact Nat.le_trans hI.base0 hre.fr.size
  have seen: ∀k o' t,k<i->ops[k]? =some o'->o'.dst=some t->t∈o.looksAt ops->lst k=true:=by
    intro k o' t hk ho' hd ht
    rcases(Q4t hdr hk ho' ho).1 with hap|hb
    . exact((Qby hap).2.1 hd ht).elim
    . exact hbef _ hb
  have seenE: ∀k o' t,d<=k->lst k=true->ops[k]? =some o'->t∈o.looksAt ops->i<=d->o'.dst≠some t:=by
    intro k o' t hk hl ho' ht hid hd
    have hik:i<k:=by
      by_cases e:k=i
      . rw[e,h0]at hl;cases hl
      . omega
    rcases(Q4t hdr hik ho ho').1 with hap|hb
    . exact(Qby hap).2.2 hd ht
    . have:=hbef' _ _ hl hb
      rw[h0]at this;cases this
  rcases hid with hid|⟨hdi,⟨t0,hg0,ho0⟩,hon⟩
  rotate_left
  ·
    obtain⟨hks,row,arr,hA,hv,hrows⟩:=(hc.fine i o ho).al t0 hg0 ho0
    unfold wpOp
    simp only[ho]
    have hw:Region.wanted o (yielded ops a.tmps)=true:=by simp [Region.wanted,hg0]
    rw[if_pos hw]
    refine Qf5 (hA.run a.eval w) ?_
    have hmn:=Zb9 hm (.cells arr row.ty)
    have hgr:=Qk5 hm (.cells arr row.ty)
    have hn:NxtK [] cx w cx (w.alloc (.cells arr row.ty)):=NxtW.toK ⟨hmn,hgr,Fr.alloc _ w _,λb hb=> .inl hb,λr row hr v=> .inl ⟨⟨row,hr⟩,v,rfl⟩⟩
    refine hK _ _ c d ⟨hI.cd,hI.dn,λk hk=>by rw[h2 k (by omega)];exact hI.pre k hk,hI.quiet,hI.wr,hcl',?_,?_,hI.base0,hI.own0,cx,λk=>if k=i then w.heap.size else B k,hmn,λr=> ?_,λt ht he=> ?_,hre.step (ks:=[]) (λk hk=>by simp [memB]at hk) hI.own0 hn,λk hdk hl=> ?_,λk j hk hj hlk hlj e=> ?_⟩
    . cases hd:o.dst<;>simp [Act.put]<;>exact hI.size
    . first|exact Qa0.put (hI.defers.step hm hn.fr)|exact Qa0.put (hI.defers.step hm hn.toW.fr)
    . rw[hR,Qnw (λk hk=>h2 _ (by omega))]
    . rw[Qtt (λk hk=>h2 _ (by omega))]
      refine Z3g hI.size (λu=>hc.dst i o u ho) (λhd=>(he i o (by omega) h1 ho hd).elim) (λhd=> ?_)
      exact Q8b hgr (hE t (λk o' hk hl hok=>ht k o' hk (by rw[h2 k (by omega)];exact hl) hok) (λk o' hk hl hok=>he k o' hk (by rw[h2 k (λe'=>by rw[e',h0]at hl;cases hl)];exact hl) hok))
    . by_cases e:k=i
      . subst e
        simp only[if_true]
        exact⟨o,t0,row,arr,ho,hg0,ho0,hA,hv,hrows,⟨hre.fr.size,by rw[Qov];omega,Qnm w _,λhb=>by have:=(hm.imm _ hb).1;omega,λr row' hr hv' e=>by have:=hm.lt hr hv';omega⟩,λu hu=>zH hu (bJ (hc.dst k o u ho hu) hI.size),hon⟩
      . simp only[if_neg e]
        rw[h2 k e]at hl
        exact(hear k hdk hl).keep hn (Ne.symm e) ho
    . have key: ∀k,d<=k->lst' k=true->k≠i->B k<w.heap.size:=λk hk hlk e=>by
        rw[h2 k e]at hlk
        obtain⟨_,_,_,_,_,_,_,_,_,_,g7,_⟩:=hear k hk hlk
        exact g7.lt
      by_cases e1:k=i<;>by_cases e2:j=i
      . rw[e1,e2]
      . simp only[if_pos e1,if_neg e2]at e
        have:=key j hj hlj e2;omega
      . simp only[if_neg e1,if_pos e2]at e
        have:=key k hk hlk e1;omega
      . simp only[if_neg e1,if_neg e2]at e
        exact hdis k j hk hj (by rw[<-h2 k e1];exact hlk) (by rw[<-h2 j e2];exact hlj) e
  by_cases hci:c<=i
  . by_cases e:i=d
    ·
      subst e
      have hall: ∀k o',c<=k->k<i->ops[k]? =some o'->lst k=true\/Zc8 G ops (s ops.size).env k i=true:=λk o' hk1 hk2 hok=>by
        rcases(Q4t hdr hk2 hok ho).2 with⟨_,hq⟩|hb|hb|⟨⟨t4,_,g4⟩,_⟩
        . rw[hI.wr _ ho]at hq;cases hq
        . exact .inl (hbef _ hb)
        . exact .inr hb
        . have:=hI.wr _ ho
          rw[hal g4]at this;cases this
      have hnr: ∀k o',c<=k->k<i->ops[k]? =some o'->Zc8 G ops (s ops.size).env k i=true->(s (k+1)).rows=(s k).rows:=λk o' hk1 hk2 hok hb=>by
        rcases Qgt hok ho hb with⟨t,b,t',b',z,r,r',ii,off,ii',off',g1,g2,g3,g4,g5,g6,g7,g8,g9⟩|⟨q,g1,g2,g3,g4,_⟩|⟨q,g1,g3,g4⟩|⟨t,b,r,ii,off,_,_,_,_,g1,g2,g3,g5,g7,_⟩|⟨t,b,r,ii,off,_,_,_,g1,g2,g3,g5,g7,_⟩
        . exact((hc.fine k o' hok).ld t b r ii off g1 g3 (Qbt hc g5 g7 (aO _) (by omega))).2.1
        . exact((hc.fine k o' hok).pu q g1 (Z21 hc g3 g4 (aO _) (by omega))).2.1
        . exact((hc.fine k o' hok).pu q g1 (Z21 hc g3 (λa ha=>(g4.1 a ha).1) (aO _) (by omega))).2.1
        . exact((hc.fine k o' hok).ld t b r ii off g1 g3 (Qbt hc g5 g7 (aO _) (by omega))).2.1
        . exact((hc.fine k o' hok).ld t b r ii off g1 g3 (Qbt hc g5 g7 (aO _) (by omega))).2.1
      have hrows: ∀r,cx.R r=(s i).rows.getD r none:=λr=>by
        rw[hR,Qzd hc hI.quiet hdn (by omega) (λk hk=>by
          have hok:ops[c+k]? =some ops[c+k]:=aJ (by omega)
          rcases hall (c+k) _ (by omega) (by omega) hok with h|h
          . exact .inl h
          . exact .inr (hnr (c+k) _ (by omega) (by omega) hok h)),show c+(i-c)=i by omega]
      have henv: ∀t,(∀k o',k<i->lst k=false->ops[k]? =some o'->o'.dst≠some t)->(∀k o',i<=k->lst k=true->ops[k]? =some o'->o'.dst≠some t)->Rep cx w (look (s i).env t) (a.tmps.getD t undef):=λt ht he=>by
        have:=hE t (λk o' hk=>ht k o' (by omega)) he
        rwa [Z3r hc hI.quiet hdn (by omega) (λk o' hk hok hd=>by
          cases hl:lst (c+k) with
          |true=>rfl
          |false=>exact(ht _ _ (by omega) hl hok hd).elim),show c+(i-c)=i by omega]at this
      refine zX (M:=M) ho hm hbase hrows (λt ht=>henv t (λk o' hk hl hok hd=>by rw[seen k o' t hk hok hd ht]at hl;cases hl) (λk o' hk hl hok=>seenE k o' t hk hl hok ht (aO _))) (hc.op i o ho) λv w' c' hM hn hR' hv=> ?_
      obtain⟨d',g1,g2,g3,g4⟩:=Qew G ops _ (i+1) rfl (by omega)
      have keep: ∀k o' t b r ii off row,k<i->ops[k]? =some o'->lst k=false->o'.guard=none->o'.op= .load t (.tmp b)->Q89 ops k b=true->look (s ops.size).env b= .ptr r ii off->(s i).rows.getD r none=some row->(ks i=[]/\(s (i+1)).rows.getD r none=some row)\/(DatC ops (s ops.size).env k o'/\(s (i+1)).rows.getD r none=some (row.kill (ks i))):=by
        intro k o' t b r ii off row hk hok hl q1 q2 q3 q4 q5
        rcases(Q4t hdr hk hok ho).2 with⟨_,hq⟩|hb|hb|⟨⟨t4,_,g4⟩,_⟩
        rotate_right
        . have:=hI.wr _ ho
          rw[hal g4]at this;cases this
        . rw[hI.wr _ ho]at hq;cases hq
        . rw[hbef _ hb]at hl;cases hl
        . rcases Qgt hok ho hb with⟨t1,b1,t',b',z,r1,r',ii1,off1,ii',off',p1,p2,p3,p4,p5,p6,p7,p8,p9⟩|⟨q,p1,p2,p3,_⟩|⟨q,p1,p3,_⟩|⟨t1,b1,r1,ii1,off1,args,tys,x0,l0,p1,p2,p3,p4,p5,p6,p7,p8,p9⟩|⟨t1,b1,r1,ii1,off1,args,tys,td,p1,p2,p3,p4,p5,p6,p7,p8,p9⟩
          . rw[q2]at p3;cases p3
            rw[q4]at p7;cases p7
            obtain⟨f1,f2⟩:=(hc.fine i o ho).st t' b' z r' ii' off' p2 p4 (Qbt hc p6 p8 (by omega) (by omega))
            exact .inl ⟨f1,by rw[f2 r p9];exact q5⟩
          . rw[q2]at p3;simp [Q8u,Q64,evOp,q4]at p3
          . rw[q2]at p3;simp [Q8u,Q64,evOp,q4]at p3
          . obtain⟨f1,f2⟩:=(hc.fine i o ho).ap args tys x0 l0 p2 p6 p7 (by rw[Q50 hc p8 (Z1y p9) (by omega) (by omega)];exact p9)
            exact .inl ⟨f1,f2 r row q5⟩
          . refine .inr ⟨⟨td,p7,p8,p9⟩,(hc.fine i o ho).ap2 args tys p2 p6 r row q5 ?_⟩
            have e1:=Qbt hc q3 q4 (show k<=i by omega) (by omega)
            have e2:=Qbt hc q3 q4 (show k<=i+1 by omega) (by omega)
            rw[hc.env i o b ho,if_neg (Qh6 q3 (by omega) ho),Q7b,e1]at e2
            cases hb:memB r (ks i) with
            |false=>rfl
            |true=>simp [D.killV,D.kill,D.kill1,hb]at e2
      have keepP: ∀k o' q,k<i->ops[k]? =some o'->lst k=false->Q8u (s ops.size).env o'.op=some q->ks i=[]\/PtrC ops (s ops.size).env k o' q:=by
        intro k o' q hk hok hl hq
        rcases(Q4t hdr hk hok ho).2 with⟨_,hq'⟩|hb|hb|⟨⟨t4,_,g4⟩,_⟩
        rotate_right
        . have:=hI.wr _ ho
          rw[hal g4]at this;cases this
        . rw[hI.wr _ ho]at hq';cases hq'
        . rw[hbef _ hb]at hl;cases hl
        . rcases Qgt hok ho hb with⟨t1,b1,t',b',z,r1,r',ii1,off1,ii',off',p1,p2,p3,p4,p5,p6,p7,p8⟩|⟨q,p1,p2,p3,p4,p5⟩|⟨q',p1,p3,p4⟩|⟨t1,b1,r1,ii1,off1,args,tys,x0,l0,p1,p2,p3,p4,p5,_⟩|⟨t1,b1,r1,ii1,off1,args,tys,td,p1,p2,p3,p4,p5,_⟩
          rotate_right
          . rw[p3]at hq;simp [Q8u,Q64,evOp,p5]at hq
          rotate_right
          . rw[p3]at hq;simp [Q8u,Q64,evOp,p5]at hq
          . rw[p3]at hq;simp [Q8u,Q64,evOp,p7]at hq
          . rcases p5 with⟨t',b',z,r',ii',off',p5,p6,p7⟩|⟨f,args,tys,p5,p6⟩
            . exact .inl ((hc.fine i o ho).st t' b' z r' ii' off' p2 p5 (Qbt hc p6 p7 (by omega) (by omega))).1
            . exact .inl ((hc.fine i o ho).cl f args tys p2 p5 p6)
          . rw[p3]at hq;cases hq
            exact .inr p4
      have hksq: ∀k,c<=k->k<i->ks k=[]:=λk hk1 hk2=>by
        have hok:ops[k]? =some ops[k]:=aJ (by omega)
        exact(Qpo (hc.op k _ hok) (hI.quiet k _ hk1 hk2 hok)).1
      have henv2: ∀t,(∀k o,k<i+1->lst' k=false->ops[k]? =some o->o.dst≠some t)->(∀k o,i+1<=k->lst' k=true->ops[k]? =some o->o.dst≠some t)->Rep c' w' (look (s (i+1)).env t) ((a.put o.dst v).tmps.getD t undef):=by
        intro t ht he
        rw[hc.env i o t ho]
        refine Z3g hI.size (λu=>hc.dst i o u ho) (λhd=>by rw[if_pos hd];exact hv) (λhd=> ?_)
        rw[if_neg hd,Q7b]
        refine Q8b hn.grows (Qww (henv t (λk o' hk hl hok=> ?_) (λk o' hk hl hok=> ?_)))
        . exact ht k o' (by omega) (by rw[h2 k (by omega)];exact hl) hok
        . have hne:k≠i:=λe'=>by rw[e',h0]at hl;cases hl
          exact he k o' (by omega) (by rw[h2 k hne];exact hl) hok
      refine hK _ w' (i+1) d' ⟨g1,g2,λk hk=> ?_,g3,g4,hcl',?_,?_,hI.base0,hI.own0,by
        have:=adopt hc (c0:=c0) (w0:=w0) (w:=w') (lst:=lst') (a:=a.put o.dst v) (c:=i+1) (d:=d') g3 g2 ⟨c',B,hn.mem,hR',henv2,hre.step hM hI.own0 hn,λk hk hlk=>(hear k (by omega) (by rw[<-h2 k (by omega)];exact hlk)).keep hn (by omega) ho,λk j hk hj hlk hlj e=>hdis k j (by omega) (by omega) (by rw[<-h2 k (by omega)];exact hlk) (by rw[<-h2 j (by omega)];exact hlj) e⟩ (d'-(i+1)) (by omega)
        rwa [show i+1+(d'-(i+1))=d' by omega]at this⟩
      . by_cases e' : k=i
        . rw[e'];exact .inl h1
        . rw [h2 k e']
          cases hl:lst k with
          |true=>exact .inl rfl
          | false =>
            right
            by_cases hkc:k<c
            . rcases hI.pre k hkc with h|h
              . rw[hl]at h;cases h
              . rcases h with h|⟨o',q,q1,q2,q3,q4,q8⟩
                rotate_left
                . rcases q8 with q8|q8
                  rotate_left
                  . exact .inr ⟨o',q,q1,q2,q3,q4, .inr q8⟩
                  rcases keepP k o' q (by omega) q1 hl q3 with f1|f1
                  rotate_left
                  . exact .inr ⟨o',q,q1,q2,q3,q4, .inr f1⟩
                  refine .inr ⟨o',q,q1,q2,q3,q4, .inl λk' hk1 hk2=> ?_⟩
                  by_cases hk3:k'<c
                  . exact q8 k' hk1 hk3
                  . by_cases hk4:k'<i
                    . exact hksq k' (by omega) hk4
                    . rw[show k'=i by omega];exact f1
                obtain⟨o',t,b,r,ii,off,row,row',q1,q2,q3,q4,q5,q6,q7,q8⟩:=h
                have hrl:r<(s c).rows.length:=by
                  by_cases hh:r<(s c).rows.length
                  . exact hh
                  . simp only[aK,aM (show(s c).rows.length<=r by omega)]at q7;cases q7
                have hi':=Qkm hc.toChain hI.quiet hdn (aO c) hci (aO i) hrl
                rcases keep k o' t b r ii off row' (by omega) q1 hl q2 q3 q4 q5 (by rw[hi'];exact q7) with⟨f1,f2⟩|⟨f1,f2⟩
                . rcases q8 with⟨e8,q8⟩|q8
                  . refine .inl ⟨o',t,b,r,ii,off,row,row',q1,q2,q3,q4,q5,q6,f2, .inl ⟨e8,λk' hk1 hk2=> ?_⟩⟩
                    by_cases hk3:k'<c
                    . exact q8 k' hk1 hk3
                    . by_cases hk4:k'<i
                      . exact hksq k' (by omega) hk4
                      . rw[show k'=i by omega];exact f1
                  . exact .inl ⟨o',t,b,r,ii,off,row,row',q1,q2,q3,q4,q5,q6,f2, .inr ⟨q8.1,q8.2.elim λL hL=>⟨L,hL.1,λkk hk=>(hL.2 kk hk).elim λj hj=>⟨j,hj.1,by omega,hj.2.2⟩⟩⟩⟩
                . refine .inl ⟨o',t,b,r,ii,off,row,_,q1,q2,q3,q4,q5,q6,f2, .inr ⟨f1,?_⟩⟩
                  rcases q8 with⟨e8,_⟩|⟨_,L,e8,hL⟩
                  . exact⟨[ks i],by rw[e8];rfl,λkk hk=>⟨i,by omega,by omega,List.mem_singleton.1 hk⟩⟩
                  . refine⟨L++[ks i],by rw[List.foldl_append,<-e8];rfl,λkk hk=> ?_⟩
                    rcases List.mem_append.1 hk with hk|hk
                    . obtain⟨j,j1,j2,j3⟩:=hL kk hk
                      exact⟨j,j1,by omega,j3⟩
                    . exact⟨i,by omega,by omega,List.mem_singleton.1 hk⟩
            . have hok:ops[k]? =some ops[k]:=aJ (by omega)
              rcases hall k _ (by omega) (by omega) hok with h|h
              . rw[hl]at h;cases h
              . have go: ∀t b r ii off,ops[k].guard=none->ops[k].op= .load t (.tmp b)->Q89 ops k b=true->look (s ops.size).env b= .ptr r ii off->Late ops s ks k (i+1):=by
                  intro t b r ii off p1 p3 p5 p7
                  obtain⟨row,hrow⟩:=((hc.fine k _ hok).ld t b r ii off p1 p3 (Qbt hc p5 p7 (aO _) (by omega))).2.2.1
                  have hrl:r<(s k).rows.length:=by
                    by_cases hh:r<(s k).rows.length
                    . exact hh
                    . simp only[aK,aM (show(s k).rows.length<=r by omega)]at hrow;cases hrow
                  have hi':=Qkm hc.toChain hI.quiet hdn (show c<=k by omega) (show k<=i by omega) (aO i) hrl
                  rcases keep k _ t b r ii off row (by omega) hok hl p1 p3 p5 p7 (by rw[hi'];exact hrow) with⟨f1,f2⟩|⟨f1,f2⟩
                  rotate_left
                  . exact .inl ⟨_,t,b,r,ii,off,row,_,hok,p1,p3,p5,p7,hrow,f2, .inr ⟨f1,[ks i],rfl,λkk hk=>⟨i,by omega,by omega,List.mem_singleton.1 hk⟩⟩⟩
                  refine .inl ⟨_,t,b,r,ii,off,row,row,hok,p1,p3,p5,p7,hrow,f2, .inl ⟨rfl,λk' hk1 hk2=> ?_⟩⟩
                  by_cases hk4:k'<i
                  . exact hksq k' (by omega) hk4
                  . rw[show k'=i by omega];exact f1
                rcases Qgt hok ho h with⟨t,b,t',b',z,r,r',ii,off,ii',off',p1,p2,p3,p4,p5,p6,p7,p8,p9⟩|⟨q,p1,p2,p3,p4,p5⟩|⟨q,p1,p3,p4⟩|⟨t,b,r,ii,off,_,_,_,_,p1,p2,p3,p5,p7,_⟩|⟨t,b,r,ii,off,_,_,_,p1,p2,p3,p5,p7,_⟩
                rotate_right
                . exact go t b r ii off p1 p3 p5 p7
                rotate_left 2
                rotate_left
                . exact go t b r ii off p1 p3 p5 p7
                rotate_right
                . exact .inr ⟨_,q,hok,p1,p3,λa ha=>(p4.1 a ha).1, .inr p4⟩
                rotate_left
                . rcases keepP k _ q (by omega) hok hl p3 with f1|f1
                  rotate_left
                  . exact .inr ⟨_,q,hok,p1,p3,p4, .inr f1⟩
                  refine .inr ⟨_,q,hok,p1,p3,p4, .inl λk' hk1 hk2=> ?_⟩
                  by_cases hk4:k'<i
                  . exact hksq k' (by omega) hk4
                  . rw[show k'=i by omega];exact f1
                exact go t b r ii off p1 p3 p5 p7
      . cases hd:o.dst<;>simp [Act.put]<;>exact hI.size
      . first|exact Qa0.put (hI.defers.step hm hn.fr)|exact Qa0.put (hI.defers.step hm hn.toW.fr)
    ·
      have hid':i<d:=by omega
      have hq:=hI.quiet i o hci hid' ho
      have hns:=Qhi hq
      have hEv: ∀t∈o.looksAt ops,Rep cx w (look (s i).env t) (a.tmps.getD t undef):=λt ht=>by
        have envA : ∀n,c+n<=d->envS ops s val lst c n t=if c+n<=i then look (s (c+n)).env t else look (s i).env t:=by
          intro n
          induction n with
          |zero=>intro _;simp only[envS,bH];rw[if_pos hci]
          | succ n ih=>
            intro hn
            obtain⟨ok,hok⟩: ∃ok,ops[c+n]? =some ok:=⟨_,aJ (show c+n<ops.size by omega)⟩
            have ih:=ih (by omega)
            simp only[envS,hok,aL]
            by_cases hk:c+n<i
            . have hA:c+(n+1)<=i:=by omega
              have hA':c+n<=i:=by omega
              rw[if_pos hA,show c+(n+1)=c+n+1 by omega,hc.toChain.envQ hok (hI.quiet _ _ (by omega) (by omega) hok) t]
              rw[if_pos hA']at ih
              by_cases hd:ok.dst=some t
              . rw[if_pos ⟨seen _ _ t hk hok hd ht,hd⟩,if_pos hd]
              . rw[if_neg (λg=>hd g.2),if_neg hd,ih]
            . have hnot: ¬(lst (c+n)=true/\ok.dst=some t):=by
                rintro⟨g1,g2⟩
                by_cases e':c+n=i
                . rw[e',h0]at g1;cases g1
                . have hik:i<c+n:=by omega
                  rcases(Q4t hdr hik ho hok).1 with hap|hb
                  . exact(Qby hap).2.2 g2 ht
                  . have:=hbef' _ _ g1 hb
                    rw[h0]at this;cases this
              have hA: ¬c+(n+1)<=i:=by omega
              rw[if_neg hnot,ih,if_neg hA]
              split
              . rw[show c+n=i by omega]
              . rfl
        have:=hE t (λk o' hk hl hok hd=>by rw[seen k o' t (by omega) hok hd ht]at hl;cases hl) (λk o' hk hl hok=>seenE k o' t hk hl hok ht hid)
        rw[envA (d-c) (by omega),if_neg (by omega)]at this
        exact this
      have hlen: ∀k l,c<=k->k<=l->l<=d->(s k).rows.length<=(s l).rows.length:=λk l h1 h2 h3=>Qkc hc.toChain hI.quiet hI.dn h1 h2 h3
      have hget: ∀k l,c<=k->k<=l->l<=d-> ∀r,r<(s k).rows.length->(s l).rows.getD r none=(s k).rows.getD r none:=λk l h1 h2 h3 r hr=>Qkm hc.toChain hI.quiet hI.dn h1 h2 h3 hr
      have rowsA: ∀n,c+n<=d-> ∀r,r<(s i).rows.length-> ∀row,Q6t s lst c n r=some row->(s i).rows.getD r none=some row:=by
        intro n
        induction n with
        | zero=>
          intro _ r hr row h
          simp only[Q6t]at h
          by_cases hrc:r<(s c).rows.length
          . rw[hget c i (aO _) hci (by omega) r hrc];exact h
          . simp only[aK,aM (show(s c).rows.length<=r by omega)]at h;cases h
        | succ n ih=>
          intro hn r hr row h
          simp only[Q6t]at h
          split at h
          . rename_i g
            obtain⟨g1,g2,g3⟩:=g
            have hki:c+n<i:=by
              by_cases hlt':c+n<i
              . exact hlt'
              . by_cases e':c+n=i
                . rw[e',h0]at g1;cases g1
                . have:=hlen i (c+n) hci (by omega) (by omega);omega
            rw[hget (c+n+1) i (by omega) (by omega) (by omega) r g3];exact h
          . exact ih (by omega) r hr row h
      have rowsN: ∀n,c+n<=d-> ∀r,(s i).rows.length<=r->r<(s (i+1)).rows.length->Q6t s lst c n r=none:=by
        intro n
        induction n with
        | zero=>
          intro _ r h1 h2
          have:=hlen c i (aO _) hci (by omega)
          simp only[Q6t,aK,aM (show(s c).rows.length<=r by omega),Option.getD_none]
        | succ n ih=>
          intro hn r h1 h2
          simp only[Q6t]
          rw[if_neg]
          . exact ih (by omega) r h1 h2
          . rintro⟨g1,g2,g3⟩
            by_cases e':c+n=i
            . rw[e',h0]at g1;cases g1
            . by_cases hlt':c+n<i
              . have:=hlen (c+n+1) i (by omega) (by omega) (by omega);omega
              . have:=hlen (i+1) (c+n) (by omega) (by omega) (by omega);omega
      have hAg:Q4w cx (s i).rows:=λr row row' g1 g2=>by
        have hr:r<(s i).rows.length:=by
          by_cases h:r<(s i).rows.length
          . exact h
          . simp only[aK,aM (show(s i).rows.length<=r by omega)]at g2;cases g2
        rw[hR]at g1
        have:=rowsA (d-c) (by omega) r hr row g1
        rw[this]at g2;exact Option.some.inj g2
      have fin: ∀v w' c',Nxt cx w (s i).rows (s (i+1)).rows c' w'->Rep c' w' (val i) v->K (a.put o.dst v) w':=by
        intro v w' c' hn hv
        refine hK _ w' c d ⟨hI.cd,hI.dn,λk hk=>by rw[h2 k (by omega)];exact hI.pre k hk,hI.quiet,hI.wr,hcl',?_,?_,hI.base0,hI.own0,c',B,hn.mem,λr=> ?_,λt ht he=> ?_,hre.step (ks:=[]) (λk hk=>by simp [memB]at hk) hI.own0 hn.toW.toK,λk hk hlk=>(hear k hk (by rw[<-h2 k (by omega)];exact hlk)).keep hn.toW.toK (by omega) ho,λk j hk hj hlk hlj e=>hdis k j hk hj (by rw[<-h2 k (by omega)];exact hlk) (by rw[<-h2 j (by omega)];exact hlj) e⟩
        . cases hd:o.dst<;>simp [Act.put]<;>exact hI.size
        . first|exact Qa0.put (hI.defers.step hm hn.fr)|exact Qa0.put (hI.defers.step hm hn.toW.fr)
        . rw[hn.rows,hR,Quf hci h0 h1 h2 (d:=d) (λk hk1 hk2=>hlen (i+1) k (by omega) (by omega) (by omega)) (by omega) (by omega)]
        . have hl: ∀k o',i<k->lst k=true->ops[k]? =some o'->o'.dst=some t->o.dst=some t->False:=by
            intro k o' hik hk hok hd1 hd2
            rcases(Q4t hdr hik ho hok).1 with hap|hb
            . exact(Qby hap).1 hd2 hd1
            . have:=hbef' _ _ hk hb
              rw[h0]at this;cases this
          rw[Z29 ho hci h0 h1 h2 hl (by omega)]
          have hold:=Q8b hn.grows (hE t (λk o' hk hl hok=>ht k o' hk (by rw[h2 k (by omega)];exact hl) hok) (λk o' hk hl hok=>he k o' hk (by rw[h2 k (by omega)];exact hl) hok))
          refine Z3g hI.size (λu=>hc.dst i o u ho) (λhd=>by rw[if_pos hd];exact hv) (λhd=>by rw[if_neg hd];exact hold)
      have skip:val i= .tup []->(s (i+1)).rows=(s i).rows->K (a.put o.dst undef) w:=λe1 e2=>
        fin undef w cx ⟨hm,Q2n.refl _ _,Fr.refl _ _,λb hb=> .inl hb,λr=>by rw[e2,if_neg (by omega)],λ_ _=>⟨rfl,Iff.rfl⟩,λr g1 g2=>by rw[e2]at g2;omega⟩ (by rw[e1];exact Qnf _ _)
      have run:OpX P G M o (evOp (s i).env) (s i).rows (ks i) (val i) (s (i+1)).rows->o.wpR P a w K Q:=λhX=>by
        unfold OpX at hX
        rw[hns]at hX
        refine hX.2.2 cx w a hm hbase hAg (λr g1 g2=>by rw[hR];exact rowsN (d-c) (by omega) r g1 g2) (λx hx=> ?_) K Q fin
        cases x with
        | tmp t=>
          refine hEv t ?_
          unfold Oper.looksAt
          exact gH _ (List.mem_filterMap.2 ⟨.tmp t,by simpa using hx,rfl⟩)
        | const v=>
          simp only[evOp,Act.eval]
          cases hv:Z3o v with
          |none=>trivial
          |some d=>exact Qjr hv cx w
        |global g=>trivial
        |func f=>exact Qgg f
      have hG:=hc.op i o ho
      unfold wpOp
      simp only[ho]
      unfold GOp at hG
      cases hg:o.guard with
      | none=>
        simp only[hg]at hG
        have hw:Region.wanted o (yielded ops a.tmps)=true:=by simp [Region.wanted,hg]
        rw[if_pos hw]
        exact run hG
      | some jw=>
        obtain⟨j,want⟩:=jw
        simp only[hg]at hG
        obtain⟨g,g2,hG⟩:=hG
        have hr:=hEv g (by
          unfold Oper.looksAt
          refine gG _ ?_
          simp only[hg,g2];simp)
        rcases hG with⟨b,g3,g4⟩|⟨g3,_,e1,e2⟩
        rotate_left
        . rw[g3]at hr
          rw[if_neg (by rw[Qhu (o:=o) hg g2 hr];simp)]
          exact skip e1 e2
        rw[g3]at hr
        have hw:=Qni (o:=o) hg g2 hr
        by_cases e':b=want
        . rw[if_pos e']at g4
          rw[if_pos (by rw[hw];simpa using e')]
          exact run g4
        . rw[if_neg e']at g4
          rw[if_neg (by rw[hw];simpa using e')]
          exact skip g4.2.1 g4.2.2
  ·
    have hic:i<c:=by omega
    rcases hI.pre i hic with h|h
    . rw[h0]at h;cases h
    have hback: ∀b,Q89 ops i b=true->(∀k,i<k->k<c->ks k=[])->ks i=[]->look (s c).env b=look (s i).env b:=by
      intro b hb q8 q9
      have: ∀k,i<=k->k<=c->look (s k).env b=look (s i).env b:=by
        intro k
        induction k with
        |zero=>intro h1 _;rw[show i=0 by omega]
        | succ k ih=>
          intro h1 h2
          by_cases e':i=k+1
          . rw[e']
          . have hok:ops[k]? =some ops[k]:=aJ (by omega)
            rw[hc.env k _ b hok,if_neg (Qh6 hb (by omega) hok)]
            by_cases e2:k=i
            . rw[e2,q9,Q17]
            . rw[q8 k (by omega) (by omega),Q17];exact ih (by omega) (by omega)
      exact this c (by omega) (aO _)
    have hrep: ∀b,Q89 ops i b=true->b∈o.looksAt ops->Rep cx w (look (s c).env b) (a.tmps.getD b undef):=λb hnb hlb=>by
      have:=hE b (λk o' hk hl hok hd=>by
        by_cases hki:k<i
        . rw[seen k o' b hki hok hd hlb]at hl;cases hl
        . exact Qh6 hnb (by omega) hok hd) (λk o' hk hl hok=>seenE k o' b hk hl hok hlb hid)
      rwa [Qq hc (λk o' hk hok hd=>(Qh6 hnb (by omega) hok hd).elim)]at this
    obtain ⟨q2,q8,hN,hops⟩:o.guard=none/\((∀k,i<k->k<c->ks k=[])\/ ∀t,o.dst=some t->Q89 ops (i+1) t=true/\Q9n (look (s ops.size).env t)=true)/\OpN P o (evOp (s c).env) (s c).rows (val i) (s c).rows/\ ∀x∈o.op.operands,Rep cx w (evOp (s c).env x) (a.eval x):=by
      rcases h with⟨o',t0,b,r,ii,off,row,row',q1,q2,q3,q4,q5,q6,q7,q8⟩|⟨o',q,q1,q2,q3,q4,q8⟩
      . rw [ho]at q1;cases q1
        have hpc:look (s c).env b= .ptr r ii off:=Qbt hc q4 q5 (by omega) (by omega)
        have hpi:look (s i).env b= .ptr r ii off:=Qbt hc q4 q5 (by omega) (by omega)
        have hfine:=(hc.fine i o ho).ld t0 b r ii off q2 q3 hpi
        have hev:evOp (s c).env (.tmp b)= .ptr r ii off:=by simp [evOp,hpc]
        have q9:((∀k,i<k->k<c->ks k=[])\/ ∀t,o.dst=some t->Q89 ops (i+1) t=true/\Q9n (look (s ops.size).env t)=true)/\OpN P o (evOp (s c).env) (s c).rows (val i) (s c).rows:=by
          rcases q8 with⟨e8,q8⟩|⟨⟨td,d1,d2,d3⟩,L,e8,hL⟩
          . subst e8
            exact⟨.inl q8,hfine.2.2.2.1 (evOp (s c).env) (s c).rows hev (by rw[q6,q7])⟩
          . refine⟨.inr λt ht=>by rw[d1]at ht;cases ht;exact⟨d2,Qeu d3⟩,hfine.2.2.2.2 (evOp (s c).env) (s c).rows row L ?_ (λkk hk=> ?_) hev q6 (by rw[q7,e8])⟩
            rotate_left
            . obtain⟨j,j1,j2,rfl⟩:=hL kk hk
              have h5:=Q50 hc d2 (Qeu d3) (aO _) (show i+1<=ops.size by omega)
              have h6:=hc.env i o td ho
              rw[if_pos d1,h5]at h6
              have g1:=Q50 hc d2 (Qeu d3) (show i+1<=j by omega) (show j<=ops.size by omega)
              have g2:=Q50 hc d2 (Qeu d3) (show i+1<=j+1 by omega) (show j+1<=ops.size by omega)
              have hok:ops[j]? =some ops[j]:=aJ (by omega)
              rw[hc.env j _ td hok,if_neg (Qh6 d2 (by omega) hok),Q7b,g1,Zb5 d3]at g2
              rw[<-h6];exact g2
            have h5:=Q50 hc d2 (Qeu d3) (aO _) (show i+1<=ops.size by omega)
            have h6:=hc.env i o td ho
            rw[if_pos d1]at h6
            rw[<-h6,h5];exact d3
        refine⟨q2,q9.1,q9.2,λx hx=> ?_⟩
        have hx':x= .tmp b:=by simpa [q3,Op.operands] using hx
        rw[hx']
        refine hrep b q4 ?_
        unfold Oper.looksAt
        exact gH _ (List.mem_filterMap.2 ⟨.tmp b,by rw[q3];simp [Op.operands],rfl⟩)
      . rw [ho]at q1;cases q1
        have hfine:=(hc.fine i o ho).pu q q2 (Z21 hc q3 q4 (aO _) (by omega))
        refine⟨q2,q8.imp id λg t ht=>⟨(g.2 t ht).1,(g.2 t ht).2⟩,hfine.2.2 (evOp (s c).env) (s c).rows (λx hx=> ?_),λy hy=> ?_⟩
        . cases x with
          | tmp b=>
            rcases q8 with q8|q8
            . exact hback b (q4 b (Quh q3 hx)) q8 hfine.1
            . obtain⟨g1,g2⟩:=q8.1 b (Quh q3 hx)
              show look (s c).env b=look (s i).env b
              rw[Q50 hc g1 g2 (by omega) (by omega),Q50 hc g1 g2 (aO _) (by omega)]
          |_=>rfl
        . cases y with
          | tmp b=>
            refine hrep b (q4 b (Quh q3 hy)) ?_
            unfold Oper.looksAt
            exact gH _ (List.mem_filterMap.2 ⟨.tmp b,by simpa using hy,rfl⟩)
          | const v=>
            simp only[evOp,Act.eval]
            cases hv:Z3o v with
            |none=>trivial
            |some d=>exact Qjr hv cx w
          |global g=>trivial
          |func f=>exact Qgg f
    have hAg:Q4w cx (s c).rows:=λr' row1 row2 g1 g2=>by
      have hr:r'<(s c).rows.length:=by
        by_cases h:r'<(s c).rows.length
        . exact h
        . simp only[aK,aM (show(s c).rows.length<=r' by omega)]at g2;cases g2
      rw[hR,Z5c hc hI.quiet hdn hr (by omega),g2]at g1
      exact(Option.some.inj g1).symm
    have fin: ∀v w' c',Nxt cx w (s c).rows (s c).rows c' w'->Rep c' w' (val i) v->K (a.put o.dst v) w':=by
      intro v w' c' hn hv
      refine hK _ w' c d ⟨hcd,hdn,λk hk=> ?_,hI.quiet,hI.wr,hcl',?_,?_,hI.base0,hI.own0,c',B,hn.mem,λr'=> ?_,λt ht he=> ?_,hre.step (ks:=[]) (λk hk=>by simp [memB]at hk) hI.own0 hn.toW.toK,λk hk hlk=>(hear k hk (by rw[<-h2 k (by omega)];exact hlk)).keep hn.toW.toK (by omega) ho,λk j hk hj hlk hlj e=>hdis k j hk hj (by rw[<-h2 k (by omega)];exact hlk) (by rw[<-h2 j (by omega)];exact hlj) e⟩
      . by_cases e':k=i
        . rw[e'];exact .inl h1
        . rw[h2 k e'];exact hI.pre k hk
      . cases hd:o.dst<;>simp [Act.put]<;>exact hI.size
      . first|exact Qa0.put (hI.defers.step hm hn.fr)|exact Qa0.put (hI.defers.step hm hn.toW.fr)
      . rw[hn.rows,hR,if_neg (by omega),Qnw (λk hk=>h2 _ (by omega))]
      . rw [Qtt (λk hk=>h2 _ (by omega))]
        refine Z3g hI.size (λu=>hc.dst i o u ho) (λhd=> ?_) (λhd=> ?_)
        ·
          have hno: ∀k o',i<k->ops[k]? =some o'->o'.dst=some t->lst k=false:=λk o' hk hok hd'=>by
            cases hl:lst k with
            |false=>rfl
            | true=>
              rcases(Q4t hdr hk ho hok).1 with hap|hb
              . exact((Qby hap).1 hd hd').elim
              . have:=hbef' _ _ hl hb
                rw[h0]at this;cases this
          have hno2: ∀k o',i<k->k<c->ops[k]? =some o'->o'.dst≠some t:=λk o' hk1 hk2 hok hd'=>
            ht k o' hk2 (by rw[h2 k (by omega)];exact hno k o' hk1 hok hd') hok hd'
          rw[Qq hc (λk o' hk hok hd'=>hno _ o' (by omega) hok hd')]
          have: ∀k,i<k->k<=c->look (s k).env t=val i:=by
            rcases q8 with q8|q8
            rotate_left
            . intro k hk1 hk2
              obtain⟨g1,g2⟩:=q8 t hd
              have:=hc.env i o t ho
              rw[if_pos hd]at this
              rw[<-this,Q50 hc g1 g2 (by omega) (by omega),Q50 hc g1 g2 (aO _) (by omega)]
            intro k
            induction k with
            |zero=>intro h;omega
            | succ k ih=>
              intro hk1 hk2
              have hok:ops[k]? =some ops[k]:=aJ (by omega)
              by_cases e':k=i
              . subst e'
                rw[ho]at hok
                rw[hc.env k o t ho,if_pos hd]
              . rw[hc.env k _ t hok,if_neg (hno2 k _ (by omega) (by omega) hok),q8 k (by omega) (by omega),Q17]
                exact ih (by omega) (by omega)
          rw[this c hic (aO _)]
          exact hv
        . refine Q8b hn.grows (hE t (λk o' hk hl hok hd'=> ?_) (λk o' hk hl hok=>he k o' hk (by rw[h2 k (by omega)];exact hl) hok))
          by_cases e':k=i
          . subst e'
            rw[ho]at hok;cases hok
            exact hd hd'
          . exact ht k o' hk (by rw[h2 k e'];exact hl) hok hd'
    unfold wpOp
    simp only[ho]
    have hw:Region.wanted o (yielded ops a.tmps)=true:=by simp [Region.wanted,q2]
    rw[if_pos hw]
    exact hN.2 cx w a hm hbase hAg (λr' g1 g2=>by omega) hops K Q fin
theorem Z4g{c0:Ctx}{w0:World}{lst:Nat->Bool}{a:Act}{w:World}{c d:Nat}(hI:Inv2 P G N M ops s ks val c0 w0 lst a w c d)(hall:∀i,i<ops.size->lst i=true):∃cx,SimS N M c0 w0 cx w (s ops.size) a:=by
 obtain⟨cx,B,hm,hR,hE,hre,hear,hdis⟩:=hI.ctx
 have hd:d=ops.size:=by
  by_cases h:d<ops.size
  ·obtain⟨o',t,_,_,g1,_,g3,_⟩:=hear d (aO _) (hall d h)
   have:=hI.wr _ g1
   unfold Q27 at this
   rw[g3]at this;cases this
  ·have:=hI.dn;omega
 subst hd
 have hcd:=hI.cd
 have hl:∀k,k<ops.size-c->lst (c+k)=true:=λk hk=>hall _ (by omega)
 refine⟨cx,hm,λr=>?_,λt=>?_,hI.size,hI.defers,hI.base0,hI.own0,hre⟩
 ·rw[hR,Qoj hc.toChain hI.quiet hI.dn (by omega) hl,show c+(ops.size-c)=ops.size by omega]
 ·have:=hE t (λk o hk h0 hok=>by rw[hall k (Array.getElem?_eq_some_iff.1 hok).1]at h0;cases h0) (λk o hk _ hok=>by have:=(Array.getElem?_eq_some_iff.1 hok).1;omega)
  rw[Qts hc.toChain hI.quiet hI.dn (by omega) hl]at this
  rwa [show c+(ops.size-c)=ops.size by omega]at this
theorem yp{c0:Ctx}{w0:World}{Q:Exit->Act->World->Prop}(hQ:∀c w a,SimS N M c0 w0 c w (s ops.size) a->Q .normal a w):∀(fuel:Nat) (listed:Array Bool) (a:Act) (w:World) (c d:Nat),listed.size=ops.size->cntF (λi=>listed.getD i false) ops.size<=fuel->
 Inv2 P G N M ops s ks val c0 w0 (λi=>listed.getD i false) a w c d->Z7g P .any ops Q fuel listed a w:=by
 intro fuel
 have Q4i:∀(listed:Array Bool) (i:Nat),listed.size=ops.size->(i∈Region.ready .any ops listed↔ ∃o,ops[i]?=some o/\listed.getD i false=false/\∀e∈o.after,Region.binds .any e=true->listed.getD e.on false=true):=by
  intro listed i hsz
  unfold Region.ready
  rw[gO,gQ]
  constructor
  ·rintro⟨h1,h2⟩
   have ho:ops[i]?=some ops[i]:=aJ h1
   simp only[ho,aR,aG,aE,aS]at h2
   refine⟨_,ho,?_,λe he hb=>?_⟩
   ·have hl:i<listed.size:=by omega
    have:=h2.1
    simpa[aP,hl]using this
   ·have:=Array.all_eq_true'.1 h2.2 e he
    simpa[hb]using this
  ·rintro⟨o,ho,h1,h2⟩
   have hlt:=(Array.getElem?_eq_some_iff.1 ho).1
   refine⟨hlt,?_⟩
   simp only[ho,aR,aG,aE,aS]
   have hl:i<listed.size:=by omega
   refine⟨by simpa[aP,hl]using h1,Array.all_eq_true'.2 λe he=>?_⟩
   cases hb:Region.binds .any e with
   |false=>rfl
   |true=>simpa[hb]using h2 e he hb
 have all_of_empty:∀(listed:Array Bool),listed.size=ops.size->Region.ready .any ops listed=[]->∀i,i<ops.size->listed.getD i false=true:=by
  intro listed hsz he i
  induction i using Nat.strongRecOn with
  |_ i ih=>
   intro hi
   cases hl:listed.getD i false with
   |true=>rfl
   |false=>
    exfalso
    have ho:ops[i]?=some ops[i]:=aJ hi
    have:i∈Region.ready .any ops listed:=(Q4i listed i hsz).2 ⟨_,ho,hl,λe he' hb=>by
     have:=Z4v hdr ho e he' hb
     exact ih e.on this (by omega)⟩
    rw[he]at this;cases this
 induction fuel with
 |zero=>
  intro listed a w c d hsz hcnt hI
  have hall:=Qui (lst:=λi=>listed.getD i false) (Nat.le_zero.1 hcnt)
  refine⟨?_,?_⟩
  ·rw[List.eq_nil_iff_forall_not_mem]
   intro i hi
   obtain⟨o,ho,h1,_⟩:=(Q4i listed i hsz).1 hi
   have:=hall i (Array.getElem?_eq_some_iff.1 ho).1
   rw[h1]at this;cases this
  ·obtain⟨cx,hs⟩:=Z4g hc hdr hI hall
   exact hQ cx w a hs
 |succ fuel ih=>
  intro listed a w c d hsz hcnt hI
  refine⟨λhe=>?_,λi hi=>?_⟩
  ·obtain⟨cx,hs⟩:=Z4g hc hdr hI (all_of_empty listed hsz he)
   exact hQ cx w a hs
  ·obtain⟨o,ho,h1,h2⟩:=(Q4i listed i hsz).1 hi
   have hlt:=(Array.getElem?_eq_some_iff.1 ho).1
   have hset1:(listed.setIfInBounds i true).getD i false=true:=by
    have hl:i<listed.size:=by omega
    simp[aP,hl]
   have hset2:∀k,k≠i->(listed.setIfInBounds i true).getD k false=listed.getD k false:=λk hk=>by
    rw[aF,aQ (Ne.symm hk),<-aF]
   refine zp hc hdr (lst':=λk=>(listed.setIfInBounds i true).getD k false) hI ho h1 hset1 hset2 h2 λa' w' c' d' hI'=>?_
   refine ih _ a' w' c' d' (by simpa using hsz) ?_ hI'
   have:=Z2t (lst:=λk=>listed.getD k false) (lst':=λk=>(listed.setIfInBounds i true).getD k false) h1 hset1 hset2 hlt
   omega
end
theorem Q4i{ops:Array Oper}{listed:Array Bool}{i:Nat}(hsz:listed.size=ops.size):i∈Region.ready .any ops listed↔ ∃o,ops[i]?=some o/\listed.getD i false=false/\∀e∈o.after,Region.binds .any e=true->listed.getD e.on false=true:=by
 unfold Region.ready
 rw[gO,gQ]
 constructor
 ·rintro⟨h1,h2⟩
  have ho:ops[i]?=some ops[i]:=aJ h1
  simp only[ho,aR,aG,aE,aS]at h2
  refine⟨_,ho,?_,λe he hb=>?_⟩
  ·have hl:i<listed.size:=by omega
   have:=h2.1
   simpa[aP,hl]using this
  ·have:=Array.all_eq_true'.1 h2.2 e he
   simpa[hb]using this
 ·rintro⟨o,ho,h1,h2⟩
  have hlt:=(Array.getElem?_eq_some_iff.1 ho).1
  refine⟨hlt,?_⟩
  simp only[ho,aR,aG,aE,aS]
  have hl:i<listed.size:=by omega
  refine⟨by simpa[aP,hl]using h1,Array.all_eq_true'.2 λe he=>?_⟩
  cases hb:Region.binds .any e with
  |false=>rfl
  |true=>simpa[hb]using h2 e he hb
theorem vp{r:Nat}:∀{l:List Nat} {k:Nat},r∉l->pos r l k=k+l.length
 |[],k,_=>rfl
 |x::l,k,h=>by
  simp only[List.mem_cons,not_or]at h
  simp only[pos]
  cases hb:Nat.beq x r with
  |true=>exact(h.1 (bE hb).symm).elim
  |false=>show pos r l (k+1)=_;rw[vp h.2];simp;omega
section
variable {p:List Nat} {ops:Array Oper} (hp:Z9q p ops.size=true)
include hp
theorem Qkn:p.length=ops.size/\(∀i,i<ops.size->i∈p)/\(∀i∈p,i<ops.size)/\p.Nodup:=by
 unfold Z9q at hp
 simp only[aE]at hp
 obtain⟨h1,h2,h3,h4⟩:=hp
 exact⟨bE h1,λi hi=>Q2i.1 (List.all_eq_true.1 h2 i (List.mem_range.2 hi)),λi hi=>lE (List.all_eq_true.1 h3 i hi),Qdj.1 h4⟩
theorem Qkb{i:Nat}(hi:i<ops.size):pos i p 0<ops.size/\p[pos i p 0]?=some i:=by
 obtain⟨h1,h2,h3,h4⟩:=Qkn hp
 have:=Qck (h2 i hi)
 exact⟨by have:=(List.getElem?_eq_some_iff.1 this).1;omega,this⟩
theorem Z4l{i:Nat}(h:pos i p 0<ops.size):i<ops.size:=by
 obtain⟨h1,h2,h3,h4⟩:=Qkn hp
 by_cases hm:i∈p
 ·exact h3 i hm
 ·rw[vp hm]at h;omega
theorem Qjs:(Q36 p ops).size=ops.size:=by
 obtain⟨h1,_⟩:=Qkn hp
 simp[Q36,h1]
theorem Qks{k i:Nat}{o:Oper}(hk:p[k]?=some i)(ho:ops[i]?=some o):(Q36 p ops)[k]?=some (Z01 p o):=by
 have:ops.getD i default=o:=by
  have hlt:=(Array.getElem?_eq_some_iff.1 ho).1
  have:=(Array.getElem?_eq_some_iff.1 ho).2
  simp[aP,hlt,this]
 simp[Q36,hk,ho]
theorem Z5j(tmps:Array Value)(j:Nat):yielded (Q36 p ops) tmps (pos j p 0)=yielded ops tmps j:=by
 by_cases hj:j<ops.size
 ·have ho:ops[j]?=some ops[j]:=aJ hj
  have h1:=Qks hp (Qkb hp hj).2 ho
  simp only[yielded,h1,ho,aL]
  rfl
 ·have h1:ops[j]?=none:=gR (by omega)
  have h2:(Q36 p ops)[pos j p 0]?=none:=by
   refine gR ?_
   rw[Qjs hp]
   by_cases h:pos j p 0<ops.size
   ·exact(hj (Z4l hp h)).elim
   ·omega
  simp only[yielded,h1,h2,Option.bind_none]
theorem Z6q{o:Oper}(tmps:Array Value):Region.wanted (Z01 p o) (yielded (Q36 p ops) tmps)=Region.wanted o (yielded ops tmps):=by
 unfold Region.wanted Z01
 cases hg:o.guard with
 |none=>rfl
 |some jw=>obtain⟨j,w⟩:=jw;simp only[Z5j hp]
theorem qq{P:Program}{Q:Exit->Act->World->Prop}{i:Nat}{K K':Act->World->Prop}{a:Act}{w:World}(hi:i<ops.size)(hK:∀a w,K' a w->K a w)(h:wpOp P (Q36 p ops) Q (pos i p 0) K' a w):wpOp P ops Q i K a w:=by
 have ho:ops[i]?=some ops[i]:=aJ hi
 have h1:=Qks hp (Qkb hp hi).2 ho
 unfold wpOp at h⊢
 simp only[ho]
 simp only[h1,Z6q hp]at h
 split at h
 ·rename_i hw
  rw[if_pos hw]
  exact Z2w (Q:=Q) hK h
 ·rename_i hw
  rw[if_neg hw]
  exact hK _ _ h
theorem Zc6{P:Program}{Q:Exit->Act->World->Prop}:∀(fuel:Nat) (listed listed':Array Bool) (a:Act) (w:World),listed.size=ops.size->listed'.size=ops.size->(∀i,i<ops.size->listed'.getD (pos i p 0) false=listed.getD i false)->
 Z7g P .any (Q36 p ops) Q fuel listed' a w->Z7g P .any ops Q fuel listed a w:=by
 have hsz:=Qjs hp
 obtain⟨f1,f2,f3,f4⟩:=Qkn hp
 have up:∀(listed listed':Array Bool) (i:Nat),listed.size=ops.size->listed'.size=ops.size->(∀i,i<ops.size->listed'.getD (pos i p 0) false=listed.getD i false)->i∈Region.ready .any ops listed->i<ops.size/\pos i p 0∈Region.ready .any (Q36 p ops) listed':=by
  intro listed listed' i h1 h2 h3 hi
  obtain⟨o,ho,g1,g2⟩:=(Q4i h1).1 hi
  have hlt:=(Array.getElem?_eq_some_iff.1 ho).1
  refine⟨hlt,(Q4i (by rw[h2,hsz])).2 ⟨_,Qks hp (Qkb hp hlt).2 ho,by rw[h3 i hlt];exact g1,λe he hb=>?_⟩⟩
  simp only[Z01,gS]at he
  obtain⟨e',he',rfl⟩:=he
  have:=g2 e' he' hb
  have hon:e'.on<ops.size:=by
   by_cases h:e'.on<ops.size
   ·exact h
   ·rw[aP,dif_neg (by omega)]at this;cases this
  show listed'.getD (pos e'.on p 0) false=true
  rw[h3 _ hon];exact this
 have down:∀(listed listed':Array Bool) (k:Nat),listed.size=ops.size->listed'.size=ops.size->(∀i,i<ops.size->listed'.getD (pos i p 0) false=listed.getD i false)->k∈Region.ready .any (Q36 p ops) listed'->∃i,i∈Region.ready .any ops listed:=by
  intro listed listed' k h1 h2 h3 hk
  obtain⟨o',ho',g1,g2⟩:=(Q4i (by rw[h2,hsz])).1 hk
  have hlt:=(Array.getElem?_eq_some_iff.1 ho').1
  rw[hsz]at hlt
  have hpk:p[k]?=some p[k]:=List.getElem?_eq_getElem (by omega)
  have hi:=f3 _ (fM hpk)
  have ho:ops[p[k]]?=some ops[p[k]]:=aJ hi
  have hposk:pos p[k] p 0=k:=by
   have:=(Qkb hp hi).2
   exact(List.getElem?_inj (by have:=(Qkb hp hi).1;omega) f4).1 (this.trans hpk.symm)
  have h4:=Qks hp hpk ho
  rw[ho']at h4;cases h4
  refine⟨p[k],(Q4i h1).2 ⟨_,ho,by rw[<-h3 _ hi,hposk];exact g1,λe he hb=>?_⟩⟩
  have:=g2 (remapE p e) (by simp only[Z01,gS];exact⟨e,he,rfl⟩) hb
  have this:listed'.getD (pos e.on p 0) false=true:=this
  have hon:pos e.on p 0<ops.size:=by
   by_cases h:pos e.on p 0<ops.size
   ·exact h
   ·rw[aP,dif_neg (by omega)]at this;cases this
  rw[<-h3 _ (Z4l hp hon)];exact this
 intro fuel
 induction fuel with
 |zero=>
  intro listed listed' a w h1 h2 h3 h
  refine⟨?_,h.2⟩
  cases hr:Region.ready .any ops listed with
  |nil=>rfl
  |cons i l=>
   have:=(up listed listed' i h1 h2 h3 (by rw[hr];simp)).2
   rw[h.1]at this;cases this
 |succ fuel ih=>
  intro listed listed' a w h1 h2 h3 h
  refine⟨λhe=>h.1 ?_,λi hi=>?_⟩
  ·cases hr:Region.ready .any (Q36 p ops) listed' with
   |nil=>rfl
   |cons k l=>
    obtain⟨i,hi⟩:=down listed listed' k h1 h2 h3 (by rw[hr];simp)
    rw[he]at hi;cases hi
  ·obtain⟨hlt,hi'⟩:=up listed listed' i h1 h2 h3 hi
   refine qq hp hlt (λa' w' hk=>ih _ _ a' w' (by simpa using h1) (by simpa using h2) (λk hk=>?_) hk) (h.2 _ hi')
   have hpi:=(Qkb hp hlt)
   have hpk:=(Qkb hp hk)
   have gs:∀(A:Array Bool) (x y:Nat),x<A.size->(A.setIfInBounds x true).getD y false=if x=y then true else A.getD y false:=λA x y hx=>by
    simp only[aF,Array.getElem?_setIfInBounds]
    split
    ·rename_i e;subst e;simp[hx]
    ·rfl
   rw[gs _ _ _ (by omega),gs _ _ _ (by omega)]
   by_cases e:i=k
   ·subst e;simp
   ·have hne:pos i p 0≠pos k p 0:=λe'=>by
     have:=hpk.2
     rw[<-e',hpi.2]at this
     exact e (Option.some.inj this)
    rw[if_neg e,if_neg hne];exact h3 k hk
end
theorem Z7k{ro:Option Nat}{P:Program}(hm:P.follows .mixedOrders=true){T:Tab}{G:List Q09}{N M id:Nat}{ops:Array Oper}{st:St}{Q:Ex->St->Prop}(hT:Q34 P T)(hG:Q57 P G){p:List Nat}(hp:Z9q p ops.size=true)(h:Qa1 T G N M (Q36 p ops) (Q36 p ops).toList st λst=>cand (Qud G (Q36 p ops) st.env) (Q .normal st)):TrR ro P N M (.region id ops true) st Q:=by
 intro c0 w0 c w a hs
 have hs:=hs.drew
 refine Qno hm ?_
 refine Zc6 hp ops.size _ (gD ops.size false) a _ (by simp) (by simp) (λi hi=>by simp[aP,(Qkb hp hi).1,hi]) ?_
 obtain⟨s,ks,val,h1,h2,h3,h4,h5,h6⟩:=Z5w hT hG (Q36 p ops).toList 0 st (by simp) h
 have hc:Z8m P G N M (Q36 p ops) s ks val:=⟨⟨λi o ho=>h3 i o (aT _) ho,λi o t ho=>h4 i o t (aT _) ho,λi o t ho=>h5 i o t (aT _) ho⟩,λi o ho=>h6 i o (aT _) ho⟩
 have hsz:s (0+(Q36 p ops).toList.length)=s (Q36 p ops).size:=by simp
 rw[hsz]at h2
 obtain⟨hd,h2⟩:=Q02.1 h2
 have hps:=Qjs hp
 obtain⟨d,g1,g2,g3,g4⟩:=Qew G (Q36 p ops) _ 0 rfl (aT _)
 have hz:∀i,(gD (Q36 p ops).size false).getD i false=false:=λi=>by
  by_cases h:i<(Q36 p ops).size
  ·simp[aP,h]
  ·simp[aP,h]
 rw[<-hps]
 refine yp hc hd (Q:=λe a' w'=>∃ex st' c',exOf e=some ex/\Q ex st'/\SimS N M c0 w0 c' w' st' a') (λc w a hs'=>⟨_,_,c,rfl,h2,hs'⟩) (Q36 p ops).size _ a _ 0 d (by simp) (Z8g _ _)
  ⟨g1,g2,λi hi=>by omega,g3,g4,λj hj=>by simp[hz]at hj,hs.size,hs.defers,hs.base0,hs.own0,c,λ_=>0,hs.mem,λr=>?_,λt _ _=>?_,hs.reach,λi _ hl=>by simp[hz]at hl,λi j _ _ hl=>by simp[hz]at hl⟩
 ·rw[Qko (λi _=>hz _),h1];exact hs.rows r
 ·rw[Qnk (λi _=>hz _),h1];exact hs.env t
theorem xq{P:Program}(hm:P.follows .mixedOrders=true):Qbz P:=by
 intro ro T G N M id ops st Q hT hG h
 unfold drawVC at h
 split at h
 ·rename_i hd
  exact xa hm ro T G N M id ops st Q hT hG hd h
 ·obtain⟨h1,h2⟩:=Q02.1 h
  exact Z7k hm hT hG h1 h2
