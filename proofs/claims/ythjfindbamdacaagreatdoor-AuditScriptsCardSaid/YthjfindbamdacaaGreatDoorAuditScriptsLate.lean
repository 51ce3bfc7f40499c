import Derived.Test.YthjfindbamdacaaGreatDoorAuditScriptsDraw
open List renaming mem_cons_self->gU,getD->aK,getElem?_eq_none->aM,mem_of_getElem?->fW,mem_append_left->gP,mem_append_right->gO,mem_filter->gX,mem_range->gY
open Array renaming mem_toList_iff->gW,toArray_toList->bS,getElem?_eq_getElem->aJ,getElem?_setIfInBounds_ne->aQ,getD->aP,getD_eq_getD_getElem?->aF,getElem?_eq_none->cL,mem_map->gZ,replicate->gL
open Option renaming bind_some->aL,map_some->aR,getD_some->aG
open Bool renaming or_eq_true->aI,false_eq_true->aN,not_eq_true'->aS
open Nat renaming lt_of_lt_of_le->bI,le_refl->aO,add_zero->bG,zero_le->aT
set_option linter.all false
namespace Go.GD
open Go
set_option linter.unusedSectionVars false
theorem Z9m{pl:Bool}{ty:rb}{d:D}{K:D->Prop}(h:uM pl ty d K):∃d',K d'/\∀K2:D->Prop,K2 d'->uM pl ty d K2:=by
 cases ty<;>simp only[uM]at h⊢
 ·exact⟨_,(da.1 h).2,λK2 h2=>da.2 ⟨(da.1 h).1,h2⟩⟩
 ·exact⟨_,(da.1 h).2,λK2 h2=>da.2 ⟨(da.1 h).1,h2⟩⟩
 ·exact⟨_,(da.1 h).2,λK2 h2=>da.2 ⟨(da.1 h).1,h2⟩⟩
 ·cases pl
  ·simp only[D.cq]at h⊢
   exact⟨_,(da.1 h).2,λK2 h2=>da.2 ⟨(da.1 h).1,h2⟩⟩
  ·exact⟨_,(da.1 h).2,λK2 h2=>da.2 ⟨(da.1 h).1,h2⟩⟩
 ·cases pl
  ·simp only[D.cq]at h⊢
   exact⟨_,(da.1 h).2,λK2 h2=>da.2 ⟨(da.1 h).1,h2⟩⟩
  ·cases d<;>first|exact h.elim|exact⟨_,h,λK2 h2=>h2⟩
theorem Qt{pl:Bool}{e:List D}:∀{dc:List rb} {off:Nat} {K:List D->Prop},JM pl e dc off K->∃ds,K ds/\∀K2:List D->Prop,K2 ds->JM pl e dc off K2
 |[],off,K,h=>⟨[],h,λK2 h2=>h2⟩
 |t::ts,off,K,h=>by
  simp only[JM]at h⊢
  obtain⟨d,hd,h1⟩:=Z9m h
  obtain⟨ds,Eo,h2⟩:=Qt hd
  exact⟨_,Eo,λK2 hk=>h1 _ (h2 _ hk)⟩
theorem Vh{pl:Bool}{ti:TI}{e:List D}{off:Nat}{K:D->Prop}(h:uO pl ti e off K):∃d,K d/\∀K2:D->Prop,K2 d->uO pl ti e off K2:=by
 unfold uO at h
 cases hg:ti.kind.isAgg with
 |true=>
  simp only[hg]at h
  obtain⟨ds,h1,h2⟩:=Qt h
  exact⟨_,h1,λK2 hk=>by unfold uO;simp only[hg];exact h2 _ hk⟩
 |false=>
  simp only[hg]at h
  split at h
  ·rename_i y hy
   obtain⟨d,h1,h2⟩:=Z9m h
   exact⟨_,h1,λK2 hk=>by unfold uO;simp only[hg,hy];exact h2 _ hk⟩
  ·exact h.elim
theorem Zg0{T:fq}{t:TypeId}{r i off:Nat}{R:Rows}{K:D->Rows->Prop}(h:w5 T t (.ptr r i off) R K):
 ∃d,K d R/\(∃row,R.getD r none=some row)/\∀R2:Rows,R2.getD r none=R.getD r none->w5 T t (.ptr r i off) R2 λd' R'=>d'=d/\R'=R2:=by
 unfold w5 at h
 cases hT:T.get t with
 |none=>simp only[hT]at h
 |some ti=>
  simp only[hT]at h
  cases hr:R.getD r none with
  |none=>simp only[hr]at h
  |some row=>
   obtain⟨box,ty,sz,es⟩:=row
   simp only[hr,da]at h
   obtain⟨h0,h⟩:=h
   obtain⟨d,h1,h2⟩:=Vh h
   refine⟨d,h1,?_,λR2 uK=>?_⟩
   ·exact⟨_,rfl⟩
   ·unfold w5
    simp only[hT,uK,da]
    exact⟨h0,h2 _ (by simp)⟩
theorem Zqf{d:D}(h:pF d=true)(ks:List Nat):d.gr ks=d.ej ks:=by cases d<;>first|rfl|cases h
theorem Zoy{pl:Bool}{ty:rb}{d d':D}{ks:List Nat}(h:uM pl ty d λx=>x=d')(hd:d'.ej ks=d'):d.ej ks=d:=by
 cases ty<;>simp only[uM]at h
 ·cases d<;>first|rfl|(simp[D.isInt,da]at h;done)
 ·cases d<;>first|rfl|(simp[D.isBool,da]at h;done)
 ·cases d<;>first|rfl|(simp[D.isStr,da]at h;done)
 ·cases pl
  ·simp only[D.cq,da]at h
   rw[h.2];exact hd
  ·simp only[da]at h
   cases d<;>first|rfl|(simp[D.FO,da]at h;done)
 ·cases pl
  ·simp only[D.cq,da]at h
   rw[h.2];exact hd
  ·cases d<;>first|exact h.elim|rfl
theorem Zab{ks:List Nat}:∀{l:List D} {j:Nat},(D.kA ks l).getD j .dead=(l.getD j .dead).ej ks
 |[],_=>rfl
 |_::_,0=>rfl
 |_::l,j+1=>Zab (l:=l) (j:=j)
theorem Zj4(ks:List Nat)(row:Row)(i off:Nat):((row.kill ks).es.get i).getD off .dead=(row.es.get i).getD off .dead\/((row.kill ks).es.get i).getD off .dead=((row.es.get i).getD off .dead).ej ks:=by
 unfold Row.kill
 split
 ·rename_i ty sz e
  cases i with
  |zero=>exact .inr Zab
  |succ i=>exact .inl rfl
 ·exact .inl rfl
theorem Zjx{pl:Bool}{ti:TI}{row:Row}{i off:Nat}{v:D}{ks:List Nat}(h:uO pl ti (row.es.get i) off λx=>x=v)(hv:pF v=true)(hk:v.ej ks=v):uO pl ti ((row.kill ks).es.get i) off λx=>x=v:=by
 unfold uO at h⊢
 cases hg:ti.kind.isAgg with
 |true=>
  simp only[hg]at h
  obtain⟨ds,h1,_⟩:=Qt h
  rw[<-h1]at hv;cases hv
 |false=>
  simp only[hg]at h⊢
  split at h
  ·rename_i y hy
   have e:((row.kill ks).es.get i).getD off .dead=(row.es.get i).getD off .dead:=by
    rcases Zj4 ks row i off with e|e
    ·exact e
    ·rw[e];exact Zoy h hk
   rw[e];exact h
  ·exact h.elim
theorem Qyc{pl:Bool}{ti:TI}{i off:Nat}{v:D}(hv:pF v=true):∀{L:List (List Nat)} {row:Row},(∀kk∈L,v.ej kk=v)->(uO pl ti (row.es.get i) off λx=>x=v)->uO pl ti ((L.foldl (λr k=>Row.kill k r) row).es.get i) off λx=>x=v
 |[],_,_,h=>h
 |k::L,row,hL,h=>Qyc hv (L:=L) (row:=row.kill k) (λkk hk=>hL kk (List.mem_cons_of_mem _ hk)) (Zjx h hv (hL k (gU ..)))
theorem Z3j:∀(L:List (List Nat)) (row:Row),(L.foldl (λr k=>Row.kill k r) row).box=row.box/\(L.foldl (λr k=>Row.kill k r) row).sz=row.sz
 |[],_=>⟨rfl,rfl⟩
 |k::L,row=>by
  obtain⟨k1,k2,k3,k4⟩:=wq k row
  obtain⟨h1,h2⟩:=Z3j L (row.kill k)
  exact⟨h1.trans k1,h2.trans k3⟩
theorem Zph{T:fq}{t:TypeId}{r i off:Nat}{R R2:Rows}{v:D}{row:Row}{L:List (List Nat)}(h:w5 T t (.ptr r i off) R λd' R'=>d'=v/\R'=R)(hv:pF v=true)(hL:∀kk∈L,v.ej kk=v)(hr:R.getD r none=some row)(uK:R2.getD r none=some (L.foldl (λr k=>Row.kill k r) row)):
 w5 T t (.ptr r i off) R2 λd' R'=>d'=v/\R'=R2:=by
 obtain⟨s1,s2⟩:=Z3j L row
 unfold w5 at h⊢
 cases hT:T.get t with
 |none=>simp only[hT]at h
 |some ti=>
  simp only[hT,hr]at h
  simp only[hT,uK]
  obtain⟨box,ty,sz,es⟩:=row
  simp only at h s1 s2
  generalize cb:L.foldl (λr k=>Row.kill k r) (⟨box,ty,sz,es⟩:Row)=jy at s1 s2⊢
  obtain⟨Ra,ty2,sz2,es2⟩:=jy
  simp only at s1 s2⊢
  subst s1;subst s2
  simp only[da]at h⊢
  refine⟨h.1,?_⟩
  have hx:uO (!Ra) ti (es.get i) off λx=>x=v:=by
   obtain⟨d,h1,h2⟩:=Vh h.2
   exact h2 _ h1.1
  have:=Qyc (L:=L) (row:=⟨Ra,ty,sz2,es⟩) hv hL hx
  rw[cb]at this
  obtain⟨d,h1,h2⟩:=Vh this
  exact h2 _ ⟨h1,by first|trivial|rfl⟩
theorem Zdl{T:fq}{t:TypeId}{r i off:Nat}{d:D}{R:Rows}{K:D->Rows->Prop}(h:HG T t (.ptr r i off) d R K):
 ∃R',K .dead R'/\(∀r',r'≠r->R'.getD r' none=R.getD r' none)/\HG T t (.ptr r i off) d R λd' R2=>d'=.dead/\R2=R':=by
 unfold HG at h
 cases hT:T.get t with
 |none=>simp only[hT]at h
 |some ti=>
  simp only[hT]at h
  cases hr:R.getD r none with
  |none=>simp only[hr]at h
  |some row=>
   obtain⟨box,ty,sz,es⟩:=row
   simp only[hr,da]at h
   obtain⟨h0,h⟩:=h
   have ri:∀(x:Option Row) (r':Nat),r'≠r->(R.set r x).getD r' none=R.getD r' none:=λx r' h=>by
    simp only[aK,List.getElem?_set_ne (Ne.symm h)]
   cases box with
   |true=>
    simp only[D.fk,nn]at h
    refine⟨_,h,ri _,?_⟩
    unfold HG
    simp only[hT,hr,da,D.fk,nn]
    exact⟨h0,by simp⟩
   |false=>
    simp only[nn]at h
    refine⟨_,h.2,ri _,?_⟩
    unfold HG
    simp only[hT,hr,da,nn]
    exact⟨h0,h.1,by simp⟩
structure Vi(P:Program)(o:Oper)(row:Row)(arr:Array Value):Prop where
 box:row.box=true
 sz:0<row.sz
 cells:∃e,row.es=.gen [e]/\e.length=row.sz/\arr.size=row.sz/\∀(c:Ctx) (w:World),kK c w e arr 0
 run:∀(ev:Operand->Value) (w:World),(execOp ev o).run P w=.ok (.value (.pointer (some ⟨w.heap.size,0,none⟩))) (w.alloc (.cells arr row.ty))
theorem Zp6{P:Program}{T:fq}(hT:jz P T){o:Oper}{t:TypeId}(ho:o.op=.alloc t){k:TK}{sz b:Nat}{cs:List rb}{ds:List D}{e:Bool}(ht:T.get t=some ⟨k,sz,b,cs,some ds,e⟩)(h0:0<sz)(hl:ds.length=sz):∃arr,Vi P o ⟨true,t,sz,.gen [ds]⟩ arr:=by
 obtain⟨i,u,hi,hu,hz,_,_,_,hzero⟩:=JG hT ht
 have hb:∀(c:Ctx) (w:World),U6 c w ⟨true,t,sz,.gen [ds]⟩ u.cells:=λc w=>ZO h0 hl (JQ hz c w)
 have fx:u.cells.size=sz:=by have:=PV hz;simp at this;omega
 refine⟨u.cells,⟨rfl,h0,⟨ds,rfl,hl,fx,λc w=>?_⟩,λev w=>?_⟩⟩
 ·have:=(hb c w).2
  simp only[if_true]at this
  obtain⟨e',h1,_,_,h4⟩:=this
  cases h1;exact h4
 ·simp only[execOp,ho,Instr.alloc,Sem.run_bind,hzero,Result.andThen_ok,ZP,Sem.run_pure]
structure J5(P:Program)(G:List bc)(o:Oper)(env:List (Nat×D))(R:Rows)(ks:List Nat)(val:D)(R':Rows):Prop where
 ld:∀t a r ii off,o.guard=none->o.op=.load t (.tmp a)->look env a=.ptr r ii off->ks=[]/\R'=R/\(∃row,R.getD r none=some row)/\(∀(ev:Operand->D) (R2:Rows),ev (.tmp a)=.ptr r ii off->R2.getD r none=R.getD r none->pL P o ev R2 val R2)/\∀(ev:Operand->D) (R2:Rows) row (L:List (List Nat)),pF val=true->(∀kk∈L,val.ej kk=val)->ev (.tmp a)=.ptr r ii off->R.getD r none=some row->R2.getD r none=some (L.foldl (λr k=>Row.kill k r) row)->pL P o ev R2 val R2
 st:∀t b x r ii off,o.guard=none->o.op=.store t (.tmp b) x->look env b=.ptr r ii off->ks=[]/\∀r',r'≠r->R'.getD r' none=R.getD r' none
 pu:∀q,o.guard=none->lY env o.op=some q->ks=[]/\R'=R/\∀(ev:Operand->D) (R2:Rows),(∀x∈o.op.operands,ev x=bq env x)->pL P o ev R2 val R2
 cl:∀f args dc,o.guard=none->o.op=.call ⟨.value (.func f),args,dc⟩->(o8 G f=none/\BW G f=false)->ks=[]
 al:∀t,o.guard=none->o.op=.alloc t->ks=[]/\∃row arr,Vi P o row arr/\val=.ptr R.length 0 0/\R'=R++[some row]
 ap2:∀args dc,o.guard=none->o.op=.call ⟨.builtin .append,args,dc⟩->∀r row,R.getD r none=some row->bw r ks=false->R'.getD r none=some (row.kill ks)
 ap:∀args dc x l,o.guard=none->o.op=.call ⟨.builtin .append,args,dc⟩->args.toList=.tmp x::l->J6 (look env x)=true->ks=[]/\∀r row,R.getD r none=some row->R'.getD r none=some row
theorem Q5{a:Nat}:∀{l:List Operand},a∈mO l↔Operand.tmp a∈l
 |[]=>by simp[mO]
 |x::l=>by cases x<;>simp[mO,Q5 (l:=l)]
theorem Zlm{op:Op}{q:List Nat}(h:pH op=some q){a:Nat}(ha:Operand.tmp a∈op.operands):a∈q:=by
 unfold pH at h
 split at h
 ·cases h;rw[Q5];simpa[Op.operands]using ha
 ·cases h;rw[Q5];simpa[Op.operands]using ha
 ·cases h;rw[Q5];simpa[Op.operands]using ha
 ·cases h;rw[Q5];simpa[Op.operands]using ha
 ·cases h;rw[Q5];simpa[Op.operands]using ha
 ·cases h;rw[Q5];simpa[Op.operands]using ha
 ·cases h
theorem Zb5{G:List bc}{op:Op}{q:List Nat}(h:pH op=some q):sg G op=false/\Gh op=false/\(∀t x,op≠.load t x)/\(∀t x y,op≠.store t x y)/\∀c,op≠.call c:=by
 unfold pH at h
 split at h<;>first|exact⟨rfl,rfl,λ_ _ h=>(by cases h),λ_ _ _ h=>(by cases h),λ_ h=>(by cases h)⟩|cases h
theorem qT{T:fq}{op:Op}{q:List Nat}(hq:pH op=some q){ev:Operand->D}{R:Rows}{K:D->Rows->Prop}(h:ie T op ev R K):
 ∃val,K val R/\∀(il:Operand->D) (R2:Rows),(∀x∈op.operands,il x=ev x)->ie T op il R2 λd R'=>d=val/\R'=R2:=by
 unfold pH at hq
 split at hq
 ·rename_i x
  simp only[ie,D.cq]at h⊢
  exact⟨_,h,λil R2 he=>⟨he x (by simp[Op.operands]),trivial⟩⟩
 ·rename_i x
  simp only[ie,D.cq]at h⊢
  exact⟨_,h,λil R2 he=>⟨he x (by simp[Op.operands]),trivial⟩⟩
 ·rename_i x n
  simp only[ie]at h⊢
  split at h
  ·rename_i ds Eo
   simp only[da,D.cq]at h
   refine⟨_,h.2,λil R2 he=>?_⟩
   rw[he x (by simp[Op.operands]),Eo]
   simp only[da,D.cq]
   exact⟨h.1,trivial,trivial⟩
  ·exact h.elim
 ·rename_i x
  simp only[ie]at h⊢
  split at h
  ·rename_i hx
   refine⟨_,h,λil R2 he=>?_⟩
   rw[he x (by simp[Op.operands]),hx]
   simp
  ·rename_i hx
   refine⟨_,h,λil R2 he=>?_⟩
   rw[he x (by simp[Op.operands]),hx]
   simp
  ·exact h.elim
 ·rename_i t x f
  simp only[ie]at h⊢
  split at h
  ·simp only[da]at h⊢
   obtain⟨h0,h⟩:=h
   split at h
   ·rename_i hx
    refine⟨_,h,λil R2 he=>⟨h0,?_⟩⟩
    rw[he x (by simp[Op.operands]),hx]
    simp
   ·rename_i hx
    refine⟨_,h,λil R2 he=>⟨h0,?_⟩⟩
    rw[he x (by simp[Op.operands]),hx]
    simp
   ·exact h.elim
  ·exact h.elim
 ·rename_i t len parts
  simp only[ie]at h⊢
  obtain⟨val,h1,h2⟩:=Zlf h
  exact⟨val,h1,λil R2 he=>h2 il R2 λp hp=>he p.2 (by simp[Op.operands];exact⟨p.1,by simpa using hp⟩)⟩
 ·cases hq
theorem qx{T:fq}{G:List bc}{N M:Nat}{o:Oper}{q:List Nat}(hq:pH o.op=some q){st:St}{K:St->Prop}(h:lS T G N M o st K):ie T o.op (bq st.env) st.rows λd R=>st.put N o.dst d R K:=by
 obtain⟨dst,op,type,pos,after,guard⟩:=o
 simp only at hq⊢
 unfold pH at hq
 split at hq<;>first|exact h|cases hq
theorem qaz{T:fq}{op:BinOp}{t:TypeId}{x y:D}{K:D->Prop}(h:sX T op t x y K):∃val,K val/\∀K',K' val->sX T op t x y K':=by
 unfold sX at h⊢
 split at h
 ·split at h
  ·simp only[da]at h⊢;exact⟨_,h.2,λK' h'=>⟨h.1,h'⟩⟩
  ·simp only[da]at h⊢;exact⟨_,h.2,λK' h'=>⟨h.1,h'⟩⟩
  ·rename_i n1 n2
   simp only[da]at h⊢
   obtain⟨h1,h⟩:=h
   unfold Zo at h⊢
   split at h<;>first|exact⟨_,h,λK' h'=>⟨h1,h'⟩⟩|(simp only[da]at h⊢;exact⟨_,h.2,λK' h'=>⟨h1,h.1,h'⟩⟩)|exact h.elim
 ·split at h<;>first|exact⟨_,h,λK' h'=>h'⟩|(simp only[da]at h⊢;exact⟨_,h.2,λK' h'=>⟨h.1,h'⟩⟩)|exact h.elim
 ·split at h
  ·split at h<;>first|exact⟨_,h,λK' h'=>h'⟩|exact h.elim
  ·exact h.elim
 ·split at h
  ·simp only[da]at h⊢
   obtain⟨h1,h⟩:=h
   split at h<;>first|exact⟨_,h,λK' h'=>⟨h1,h'⟩⟩|exact h.elim
  ·exact h.elim
 ·exact h.elim
theorem xT{T:fq}{s d:TypeId}{x:D}{K:D->Prop}(h:ME T s d x K):∃val,K val/\∀K',K' val->ME T s d x K':=by
 unfold ME at h⊢
 split at h
 ·split at h
  ·exact⟨_,h,λK' h'=>h'⟩
  ·exact h.elim
 ·split at h
  ·exact⟨_,h,λK' h'=>h'⟩
  ·exact h.elim
 ·exact h.elim
theorem Zak{place:Nat->Option (Nat×Nat)}{ev:Operand->D}:∀{parts:List (Nat×Operand)} {cs:List D} {K:List D->Prop},Qv place ev parts cs K->∃l,K l/\∀(il:Operand->D) (K':List D->Prop),(∀p∈parts,il p.2=ev p.2)->K' l->Qv place il parts cs K'
 |[],cs,K,h=>by
  simp only[Qv,D.fk]at h⊢
  exact⟨_,h,λil K' _ h'=>h'⟩
 |(i,x)::ps,cs,K,h=>by
  simp only[Qv]at h⊢
  split at h
  ·rename_i off n hp
   simp only[da]at h
   obtain⟨h1,h⟩:=h
   obtain⟨l,g1,g2⟩:=Zak h
   refine⟨l,g1,λil K' he h'=>?_⟩
   have hx:=he (i,x) (by simp)
   simp only at hx
   simp only[hx,da]
   exact⟨h1,g2 il K' (λp hpp=>he p (by simp[hpp])) h'⟩
  ·exact h.elim
theorem xx{T:fq}{t:TypeId}{parts:List (Nat×Operand)}{ev:Operand->D}{R:Rows}{K:D->Rows->Prop}(h:MG T t parts ev R K):∃val,K val R/\∀(il:Operand->D) (R2:Rows),(∀p∈parts,il p.2=ev p.2)->MG T t parts il R2 λd R'=>d=val/\R'=R2:=by
 unfold MG at h⊢
 split at h
 ·simp only[da]at h⊢
  obtain⟨h1,h⟩:=h
  obtain⟨l,g1,g2⟩:=Zak h
  exact⟨_,g1,λil R2 he=>⟨h1,g2 il _ he (by simp)⟩⟩
 ·simp only[da]at h⊢
  obtain⟨h1,h⟩:=h
  obtain⟨l,g1,g2⟩:=Zak h
  exact⟨_,g1,λil R2 he=>⟨h1,g2 il _ he (by simp)⟩⟩
 ·exact h.elim
theorem Z2y{T:fq}{t:TypeId}{str:List UInt8}{lo hi:Option Operand}{ev:Operand->D}{R:Rows}{K:D->Rows->Prop}(h:MF T t (.str str) lo hi ev R K):∃val,K val R/\∀(il:Operand->D) (R2:Rows),(∀y,lo=some y->il y=ev y)->(∀y,hi=some y->il y=ev y)->MF T t (.str str) lo hi il R2 λd R'=>d=val/\R'=R2:=by
 have Rb:∀(x:Option Operand) (n:Int) (il:Operand->D),(∀y,x=some y->il y=ev y)->r8 x il n=r8 x ev n:=λx n il he=>by
  unfold r8
  cases x with
  |none=>rfl
  |some y=>simp only[he y rfl]
 unfold MF at h⊢
 split at h
 ·rename_i x1 x2 x3 x4 x5 ht
  simp only at h
  split at h
  ·rename_i l hh e1 e2
   simp only[da]at h
   refine⟨_,h.2,λil R2 he1 he2=>?_⟩
   simp only[Rb _ _ il he1,Rb _ _ il he2,e1,e2,da]
   exact⟨h.1,trivial,trivial⟩
  ·exact h.elim
 ·simp only at h
 ·exact h.elim
 ·exact h.elim
theorem zx{T:fq}{env:List (Nat×D)}{op:Op}{q:List Nat}(hq:lY env op=some q){R:Rows}{K:D->Rows->Prop}(h:ie T op (bq env) R K):
    ∃val,K val R/\ ∀(il:Operand->D) (R2:Rows),(∀x∈op.operands,il x=bq env x)->ie T op il R2 λd R'=>d=val/\R'=R2:=by
  unfold lY at hq
  split at hq
  . rename_i q' hp;exact qT hp h
  . split at hq
    . rename_i t parts hn
      simp only[ie]at h⊢
      obtain⟨val,g1,g2⟩:=xx h
      exact⟨val,g1,λil R2 he=>g2 il R2 λp hp=>he p.2 (by simp [Op.operands];exact⟨p.1,by simpa using hp⟩)⟩
    . rename_i op' t x y ty hn
      simp only[ie]at h⊢
      obtain⟨val,g1,g2⟩:=qaz h
      refine⟨val,g1,λil R2 he=> ?_⟩
      rw[he x (by simp [Op.operands]),he y (by simp [Op.operands])]
      exact g2 _ (by simp)
    . rename_i op' t x hn
      simp only[ie]at h⊢
      split at h
      all_goals first
        |exact h.elim
        | (rename_i hx
           refine⟨_,h,λil R2 he=> ?_⟩
           rw[he x (by simp [Op.operands]),hx]
           simp)
    . rename_i s d x hn
      simp only[ie]at h⊢
      obtain⟨val,g1,g2⟩:=xT h
      refine⟨val,g1,λil R2 he=> ?_⟩
      rw[he x (by simp [Op.operands])]
      exact g2 _ (by simp)
    . rename_i s x f hn
      simp only[ie]at h⊢
      split at h
      . split at h
        . rename_i cs ti hx ht
          simp only[da]at h
          obtain⟨h1,h⟩:=h
          split at h
          . rename_i CS
            simp only[D.fk]at h
            refine⟨_,h,λil R2 he=> ?_⟩
            simp only[he x (by simp [Op.operands]),hx,ht,da,CS,D.fk]
            exact⟨h1,trivial,trivial⟩
          . rename_i CS
            simp only[da,D.cq]at h
            refine⟨_,h.2,λil R2 he=> ?_⟩
            simp only[he x (by simp [Op.operands]),hx,ht,da,CS,D.cq]
            exact⟨h1,h.1,trivial,trivial⟩
        . exact h.elim
      . exact h.elim
    . rename_i t x y hn
      simp only[ie]at h⊢
      split at h
      . rename_i ht hx hy
        simp only[da]at h
        refine⟨_,h.2,λil R2 he=> ?_⟩
        simp only[he x (by simp [Op.operands]),he y (by simp [Op.operands]),hx,hy,ht,da]
        exact⟨h.1,trivial,trivial⟩
      . rename_i ht hx hy
        simp only[da]at h
        obtain⟨h1,h⟩:=h
        split at h
        . rename_i Ai
          refine⟨_,h.2,λil R2 he=> ?_⟩
          simp only[he x (by simp [Op.operands]),he y (by simp [Op.operands]),hx,hy,ht,da,Ai]
          exact⟨h1,h.1,trivial,trivial⟩
        . rename_i Ai
          refine⟨_,h.2,λil R2 he=> ?_⟩
          simp only[he x (by simp [Op.operands]),he y (by simp [Op.operands]),hx,hy,ht,da,Ai]
          exact⟨h1,h.1,trivial,trivial⟩
        . exact h.elim
      . exact h.elim
    . rename_i t x y z hn
      split at hq
      . rename_i str hx
        simp only[ie,hx]at h⊢
        obtain⟨val,g1,g2⟩:=Z2y h
        refine⟨val,g1,λil R2 he=> ?_⟩
        rw[he x (by simp [Op.operands]),hx]
        exact g2 il R2 (λu hu=>he u (by cases hu;simp [Op.operands])) (λu hu=>he u (by cases hu;simp [Op.operands]))
      . cases hq
    . rename_i t x y hn
      split at hq
      . rename_i str hx
        simp only[ie,hx]at h⊢
        obtain⟨val,g1,g2⟩:=Z2y h
        refine⟨val,g1,λil R2 he=> ?_⟩
        rw[he x (by simp [Op.operands]),hx]
        exact g2 il R2 (λu hu=>he u (by cases hu;simp [Op.operands])) (λu hu=>he u (by cases hu))
      . cases hq
    . rename_i t x y hn
      split at hq
      . rename_i str hx
        simp only[ie,hx]at h⊢
        obtain⟨val,g1,g2⟩:=Z2y h
        refine⟨val,g1,λil R2 he=> ?_⟩
        rw[he x (by simp [Op.operands]),hx]
        exact g2 il R2 (λu hu=>he u (by cases hu)) (λu hu=>he u (by cases hu;simp [Op.operands]))
      . cases hq
    . rename_i t x y hn
      split at hq
      . rename_i sz es fr hx
        simp only[ie,hx]at h⊢
        split at h
        . rename_i k n hy
          unfold U5 at h⊢
          split at h
          . rename_i ht
            simp only[da]at h
            refine⟨_,h.2,λil R2 he=> ?_⟩
            simp only[he x (by simp [Op.operands]),he y (by simp [Op.operands]),hx,hy,ht,da]
            exact⟨h.1,trivial,trivial⟩
          . simp only[da]at h
            exact h.2.elim
          . exact h.elim
        . exact h.elim
      . cases hq
    . rename_i t x hn
      split at hq
      . rename_i sz es i off hx
        simp only[ie,hx]at h⊢
        unfold w5 at h⊢
        split at h
        . exact h.elim
        . rename_i ti ht
          simp only[da]at h
          obtain⟨d,g1,g2⟩:=Vh h.2
          refine⟨d,g1,λil R2 he=> ?_⟩
          simp only[he x (by simp [Op.operands]),hx,ht,da]
          exact⟨h.1,g2 _ (by simp)⟩
      . cases hq
    . rename_i args dc hn
      split at hq
      . rename_i x gb
        have hxm:x∈(Op.call {callee:= .builtin .len,args:=args,argTypes:=dc}).operands:=by simp [Op.operands,Call.operands];rw[<-gW,gb];simp
        simp only[ie,gb]at h⊢
        split at h
        . rename_i y t e1 e2
          cases e1
          rw[e2]at*
          split at hq
          . rename_i str hx
            simp only[hx]at h⊢
            unfold ta at h⊢
            split at h
            . simp only at h
              exact⟨_,h,λil R2 he=>by simp only[he x hxm,hx];simp⟩
            . exact h.elim
            . exact h.elim
          . rename_i sz es fr hx
            simp only[hx]at h⊢
            unfold ta at h⊢
            split at h
            . exact h.elim
            . simp only at h
              exact⟨_,h,λil R2 he=>by simp only[he x hxm,hx];simp⟩
            . exact h.elim
          . cases hq
        . exact h.elim
      . cases hq
    . cases hq
theorem Z5j{env:List (Nat×D)}{op:Op}{q:List Nat}(h:lY env op=some q){a:Nat}(ha:Operand.tmp a∈op.operands):a∈q:=by
 unfold lY at h
 split at h
 ·cases h;exact Zlm (by assumption) ha
 ·split at h
  all_goals first
   |(cases h;done)
   |(cases h;rw[Q5];simpa[Op.operands]using ha)
   |(split at h<;>first|(cases h;done)|(cases h;rw[Q5];simpa[Op.operands]using ha))
   |skip
  split at h
  ·rename_i x hx
   have jC:Operand.tmp a=x:=by
    simp[Op.operands,Call.operands]at ha
    rw[<-gW,hx]at ha
    simpa using ha
   split at h<;>first|(cases h;done)|(cases h;rw[Q5,jC];simp)
  ·cases h
theorem Z3z{G:List bc}{env:List (Nat×D)}{op:Op}{q:List Nat}(h:lY env op=some q):sg G op=false/\Gh op=false/\(∀t x y,op≠.store t x y)/\(∀f args dc,op≠.call ⟨.value (.func f),args,dc⟩)/\∀t,op≠.alloc t:=by
 unfold lY at h
 split at h
 ·rename_i q' hp
  obtain⟨h1,h2,h3,h4,h5⟩:=Zb5 (G:=G) hp
  exact⟨h1,h2,h4,λ_ _ _=>h5 _,λt e=>by rw[e]at hp;cases hp⟩
 ·split at h<;>first|(cases h;done)|exact⟨rfl,rfl,λ_ _ _ h=>(by cases h),λ_ _ _ h=>(by cases h),λ_ h=>(by cases h)⟩
theorem Zq2{T:fq}{G:List bc}{N M:Nat}{o:Oper}{q:List Nat}{st:St}(hq:lY st.env o.op=some q){K:St->Prop}(h:lS T G N M o st K):ie T o.op (bq st.env) st.rows λd R=>st.put N o.dst d R K:=by
  obtain⟨dst,op,type,pos,after,guard⟩:=o
  simp only at hq⊢
  unfold lY at hq
  split at hq
  . rename_i q' hp
    exact qx (o:=⟨dst,op,type,pos,after,guard⟩) hp h
  . split at hq
    all_goals first
      |(cases hq;done)
      |exact h
      |skip
    . rename_i op' t x y ty hn
      unfold lS at h
      simp only at h
      split at h
      . rename_i hx hy
        rw[hx]at hq;cases hq
      . exact h
    . rename_i s d x hn
      unfold lS at h
      simp only at h
      split at h
      . exfalso
        unfold wo at h
        split at h
        . split at h
          . rename_i he
            split at hq
            . rename_i hx;rw[hx]at he;cases he
            . rename_i hx;rw[hx]at he;cases he
            . cases hq
          . exact h
        . exact h
      . exact h
def tj:D->Bool|.all _=>true|.int _ _=>true|.str _=>true|.bool _=>true|.sl _ _ _=>true|.iu _ _ _ _=>true|.ptr _ _ _=>true|.emp=>true|.du=>true|_=>false
theorem Zb8{d:D}(h:J6 d=true):tj d=true:=by cases d<;>first|rfl|cases h
theorem Qln{d:D}(h:HS d=true):tj d=true:=by cases d<;>first|rfl|cases h
theorem Ziv{ks:List Nat}{d p:D}(hp:tj p=true)(h:d.gr ks=p):d=p:=by
 subst h
 cases d with
 |all x=>simp only[D.gr,D.kill,D.ej]at hp⊢;cases hb:bw x ks<;>simp[hb,tj]at hp⊢
 |own x y z=>simp only[D.gr,D.kill,D.ej]at hp⊢;cases hb:bw x ks<;>simp[hb,tj]at hp
 |ptr x y z=>simp only[D.gr,D.kill,D.ej]at hp⊢;cases hb:bw x ks<;>simp[hb,tj]at hp⊢
 |pa x y z u v q=>simp only[D.gr,D.kill,D.ej]at hp⊢;cases hb:bw x ks<;>simp[hb,tj]at hp
 |c8 x=>simp only[D.gr,D.kill,D.ej]at hp⊢;cases hb:bw x ks<;>simp[hb,tj]at hp
 |gq f cs=>simp only[D.gr,D.kill,D.ej]at hp⊢;cases hb:nO (oz cs) ks<;>simp[hb,tj]at hp
 |_=>first|rfl|simp[D.gr,D.kill,D.ej,tj]at hp
theorem Zom{env mn:List (Nat×D)}{op:Op}{q:List Nat}(h:lY env op=some q)(hb: ∀a∈q,tj (look env a)=true->look mn a=look env a):lY mn op=some q:=by
  have one: ∀(x:Operand),(∀a,x= .tmp a->a∈q)->tj (bq env x)=true->bq mn x=bq env x:=λx hx hs=>by
    cases x with
    |tmp a=>exact hb a (hx a rfl) hs
    |_=>rfl
  unfold lY at h⊢
  split at h
  . exact h
  . split at h
    all_goals first
      |(cases h;done)
      |exact h
      |skip
    all_goals
      split at h
      all_goals first
        |(cases h;done)
        | (rename_i hx
           cases h
           first
             |(have:=one _ (λa e=>by rw[Q5,<-e];exact gU) (by rw[hx];rfl);rw[this,hx])
             |(have:=one _ (λa e=>by rw[Q5,<-e];simp) (by rw[hx];rfl);rw[this,hx]))
        |skip
    split at h
    all_goals first
      |(cases h;done)
      | (rename_i hx
         cases h
         have:=one _ (λa e=>by rw[Q5,<-e];exact gU) (by rw[hx];rfl);rw[this,hx])
theorem yx{T:fq}{M:Nat}{t tx:TypeId}{x y:D}{R:Rows}{K:List Nat->D->Rows->Prop}(h:Mq T M t tx x y R K):
 Mq T M t tx x y R λks d R'=>((J6 x=true->ks=[]/\∀r row,R.getD r none=some row->R'.getD r none=some row)/\∀r row,R.getD r none=some row->bw r ks=false->R'.getD r none=some (row.kill ks))/\K ks d R':=by
 have go:∀{e sz lQ:Nat} {J7:List Nat} {es ys:ao},(J6 x=true->J7=[])->CJ e sz lQ R J7 es ys K->CJ e sz lQ R J7 es ys λks d R'=>((J6 x=true->ks=[]/\∀r row,R.getD r none=some row->R'.getD r none=some row)/\∀r row,R.getD r none=some row->bw r ks=false->R'.getD r none=some (row.kill ks))/\K ks d R':=by
  intro e sz lQ J7 es ys hx h
  simp only[CJ,da,nn]at h⊢
  have key:∀r row,R.getD r none=some row->bw r J7=false->(r6 J7 R 0++[some (⟨false,e,sz,es.app ys⟩:Row)]).getD r none=some (row.kill J7):=λr row hr hm=>by
   have hl:r<R.length:=by
    by_cases hh:r<R.length
    ·exact hh
    ·simp only[aK,aM (show R.length<=r by omega)]at hr;cases hr
   rw[Qn3 (by rw[JC];exact hl),PU,hr,Nat.zero_add,hm]
   simp
  refine⟨h.1,⟨λe=>⟨hx e,λr row hr=>?_⟩,key⟩,h.2⟩
  have:=key r row hr (by rw[hx e];rfl)
  rw[this,hx e,Z2k]
 unfold Mq at h⊢
 split at h
 ·split at h
  ·split at h
   ·rename_i jW
    simp only[da]at h⊢
    refine⟨h.1,?_⟩
    have h:=h.2
    cases x<;>first|(exact h.elim;done)|(exact go (λ_=>rfl) h;done)|skip
    all_goals
     (try simp only at h⊢)
     split at h
     ·exact⟨h.1,go (λe=>by cases e) h.2⟩
     ·exact h.elim
   ·exact h.elim
  ·exact h.elim
 ·exact h.elim
theorem Zou{P:Program}{T:fq}(hT:jz P T){G:List bc}(hG:jT P G){N M:Nat}{ops:Array Oper}{o:Oper}{l:List Oper}{st:St}{K:St->Prop}(h:mb T G N M ops (o::l) st K):
    ∃ks val R' iL,(∀t,look iL t=look (se ks st.env) t)/\(∀t,o.dst=some t->t<N)/\nA P G M ops o st.env st.rows ks val R'/\mb T G N M ops l ⟨sf iL o.dst val,R'⟩ K/\J5 P G o st.env st.rows ks val R':=by
  by_cases hL: ∃t a r ii off,o.guard=none/\o.op= .load t (.tmp a)/\look st.env a= .ptr r ii off
  . obtain⟨t,a,r,ii,off,hg,ho,ha⟩:=hL
    simp only[mb,hg,lS,ho,ie,bq,ha]at h
    obtain⟨d,h1,h2,h3⟩:=Zg0 h
    obtain⟨g1,g2⟩:=pb h1
    have hN: ∀(ev:Operand->D) (R2:Rows),ev (.tmp a)= .ptr r ii off->R2.getD r none=st.rows.getD r none->pL P o ev R2 d R2:=λev R2 he uK=>by
      have:=h3 R2 uK
      obtain⟨val,R',⟨rfl,rfl⟩,hO⟩:=Nq hT o ev R2 (λd' R'=>d'=d/\R'=R2) (by simp only[ho,ie,he];exact this)
      simpa [ho,Gh] using hO
    have hN2: ∀(ev:Operand->D) (R2:Rows) row (L:List (List Nat)),pF d=true->(∀kk∈L,d.ej kk=d)->ev (.tmp a)= .ptr r ii off->st.rows.getD r none=some row->R2.getD r none=some (L.foldl (λr k=>Row.kill k r) row)->pL P o ev R2 d R2:=λev R2 row L hd hL he hr uK=>by
      have:=Zph (h3 st.rows rfl) hd hL hr uK
      obtain⟨val,R',⟨rfl,rfl⟩,hO⟩:=Nq hT o ev R2 (λd' R'=>d'=d/\R'=R2) (by simp only[ho,ie,he];exact this)
      simpa [ho,Gh] using hO
    refine⟨[],d,st.rows,st.env,λt=>o4.symm,g1,?_,g2,λt' a' r' mi iP _ je jC=> ?_,λt' b x r' mi iP _ je=> ?_,λq _ hq=> ?_,λf args dc _ hf _=>by simp [ho]at hf,λt' _ hf=>by simp [ho]at hf,λargs dc _ hf=>by simp [ho]at hf,λargs dc x' l' _ hf=>by simp [ho]at hf⟩
    . unfold nA
      simp only[hg]
      exact BT (by rw[ho];rfl) (hN _ _ (by simp [bq,ha]) rfl)
    . rw[ho]at je;cases je
      rw[ha]at jC;cases jC
      exact⟨rfl,rfl,h2,hN,hN2⟩
    . rw[ho]at je;cases je
    . rw[ho]at hq;simp [lY,pH,bq,ha]at hq
  . by_cases hS : ∃t b x r ii off,o.guard=none/\o.op= .store t (.tmp b) x/\look st.env b= .ptr r ii off
    . obtain⟨t,b,x,r,ii,off,hg,ho,hb⟩:=hS
      simp only[mb,hg,lS,ho,ie]at h
      rw[show bq st.env (.tmp b)= .ptr r ii off by simp [bq,hb]]at h
      obtain⟨R',h1,h2,h3⟩:=Zdl h
      obtain⟨g1,g2⟩:=pb h1
      obtain⟨val,R2,⟨rfl,rfl⟩,hO⟩:=Nq hT o (bq st.env) st.rows (λd' R2=>d'= .dead/\R2=R') (by simp only[ho,ie];rw[show bq st.env (.tmp b)= .ptr r ii off by simp [bq,hb]];exact h3)
      refine⟨[], .dead,R2,st.env,λt=>o4.symm,g1,?_,g2,λt' a' r' mi iP _ je=> ?_,λt' b' x' r' mi iP _ je tG=> ?_,λq _ hq=> ?_,λf args dc _ hf _=>by simp [ho]at hf,λt' _ hf=>by simp [ho]at hf,λargs dc _ hf=>by simp [ho]at hf,λargs dc x' l' _ hf=>by simp [ho]at hf⟩
      . unfold nA
        simp only[hg]
        have hO':EL P o (bq st.env) st.rows .dead R2:=by simpa [ho,Gh] using hO
        exact BU (by rw[ho];rfl) (λk hk=>by simp [bw]at hk) hO'.toK
      . rw[ho]at je;cases je
      . rw[ho]at je;cases je
        rw[hb]at tG;cases tG
        exact⟨rfl,h2⟩
      . rw[ho]at hq;cases hq
    . by_cases hP : ∃q,o.guard=none/\lY st.env o.op=some q
      . obtain⟨q,hg,hq⟩:=hP
        simp only[mb,hg]at h
        have rQ:=Zq2 hq h
        obtain⟨val,Jad,Jae⟩:=zx hq rQ
        obtain⟨hW,hS',Nc,hnc,hna⟩:=Z3z (G:=G) hq
        have hN: ∀(ev:Operand->D) (R2:Rows),(∀x∈o.op.operands,ev x=bq st.env x)->pL P o ev R2 val R2:=λev R2 he=>by
          obtain⟨JaB,R',⟨rfl,rfl⟩,hO⟩:=Nq hT o ev R2 _ (Jae ev R2 he)
          simpa [hS'] using hO
        obtain⟨g1,g2⟩:=pb Jad
        refine⟨[],val,st.rows,st.env,λt=>o4.symm,g1,?_,g2,λt' a' r' mi iP S5 je jC=>(hL ⟨t',a',r',mi,iP,S5,je,jC⟩).elim,λt' b' x' r' mi iP _ je=>(Nc _ _ _ je).elim,λq' _ FZ=>⟨rfl,rfl,hN⟩,λf args dc _ hf _=>(hnc _ _ _ hf).elim,λt' _ hf=>(hna _ hf).elim,λargs dc _ hf=>by rw[hf]at hq;simp [lY,pH]at hq,λargs dc x' l' _ hf=>by rw[hf]at hq;simp [lY,pH]at hq⟩
        unfold nA
        simp only[hg]
        exact BT hW (hN _ _ (λ_ _=>rfl))
      . by_cases hC: ∃f args dc,o.guard=none/\o.op= .call ⟨.value (.func f),args,dc⟩/\(o8 G f=none/\BW G f=false)
        . obtain⟨f,args,dc,hg,ho,lR,DI⟩:=hC
          obtain⟨dst,op,type,pos,after,guard⟩:=o
          simp only at hg ho
          subst hg;subst ho
          simp only[mb,lS,lR,DI]at h
          have Iq: ∀x,oO G f=some x->x.pf=false:=λx hx=>by simpa [BW,hx] using DI
          obtain⟨val,R',x,hK,hx,hO,hN⟩:=Ww (dst:=dst) (type:=type) (pos':=pos) (after:=after) (guard:=none) (dc:=dc) hG lR h
          obtain⟨g1,g2⟩:=pb hK
          refine⟨[],_,_,st.env,λt=>o4.symm,g1,?_,g2,λt' a' r' mi iP _ je=>(by cases je),λt' b' x' r' mi iP _ je=>(by cases je),λq' _ FZ=>(by cases FZ),λ_ _ _ _ _ _=>rfl,λt' _ hf=>(by cases hf),λargs dc _ hf=>(by cases hf),λargs dc x' l' _ hf=>(by cases hf)⟩
          unfold nA
          cases hr:x.refs with
          |nil=>exact BT (by simp only[sg,hx,hr,Iq x hx]) (hN hr)
          |cons b bs=>exact BU (by simp only[sg,hx,hr]) (λk hk=>by simp [bw]at hk) hO.toK
        . by_cases hAl: ∃t,o.guard=none/\o.op= .alloc t
          . obtain⟨t,hg,ho⟩:=hAl
            obtain⟨dst,op,type,pos,after,guard⟩:=o
            simp only at hg ho
            subst hg;subst ho
            simp only[mb,lS,ie]at h
            split at h
            . rename_i ht
              simp only[da,aE,Nt]at h
              obtain⟨⟨h0,hl⟩,h⟩:=h
              obtain⟨g1,g2⟩:=pb h
              obtain⟨arr,hA⟩:=Zp6 (o:=⟨dst, .alloc t,type,pos,after,none⟩) hT rfl ht (lE h0) (bE hl)
              refine⟨[],_,_,st.env,λt=>o4.symm,g1,?_,g2,λt' a' r' mi iP _ je=>(by cases je),λt' b' x' r' mi iP _ je=>(by cases je),λq' _ FZ=>(by cases FZ),λ_ _ _ _ hf=>(by cases hf),λt' _ hf=>⟨rfl,_,arr,hA,rfl,rfl⟩,λargs dc _ hf=>(by cases hf),λargs dc x' l' _ hf=>(by cases hf)⟩
              unfold nA
              exact BT rfl (UT λc w a hm Sx eu=>⟨_,rfl,Znl hT ht (lE h0) (bE hl) st.rows.length c w⟩)
            . exact h.elim
          by_cases hAp: ∃args dc,o.guard=none/\o.op= .call ⟨.builtin .append,args,dc⟩
          . obtain⟨args,dc,hg,ho⟩:=hAp
            obtain⟨dst,op,type,pos,after,guard⟩:=o
            simp only at hg ho
            subst hg;subst ho
            simp only[mb,lS]at h
            split at h
            . rename_i x y t tx nK ht
              have J8:args= #[x,y]:=by rw[<-bS (xs:=args),nK]
              have ui:dc= #[t,tx]:=by rw[<-bS (xs:=dc),ht]
              subst J8;subst ui
              have h':=yx h
              obtain⟨ks,R',⟨⟨Jaf,CL⟩,hK⟩,hM,hr⟩:=Zmw (ty:=type) hT h'
              rw[Ip]at hK
              obtain⟨h1,h2⟩:=pb hK
              refine⟨ks,_,_,_,λt=>rfl,h1,?_,h2,λt' a' r' mi iP _ je=>(by cases je),λt' b' x' r' mi iP _ je=>(by cases je),λq' _ FZ=>(by cases FZ),λ_ _ _ _ hf=>(by cases hf),λt' _ hf=>(by cases hf),λargs dc _ hf r row hr hm=>CL r row hr hm,λargs dc x' l' _ hf ha he=> ?_⟩
              rotate_left
              . cases hf
                have hx:x= .tmp x':=by
                  have:=congrArg List.head? ha
                  simpa using this
                subst hx
                exact Jaf he
              unfold nA
              refine BU rfl hM λc w a hm hb hR eu K' Q re=> ?_
              obtain⟨v',w',c',ig,hn,jV,hv⟩:=hr c w _ _ hm hb hR (eu x (by simp [Op.operands,Call.operands])) (eu y (by simp [Op.operands,Call.operands]))
              refine Gi ?_ (re v' w' c' hn jV hv)
              simp only[execOp,resolve,Sem.run_bind,Sem.run_pure,Result.andThen_ok,invoke,builtin]
              have:(#[x,y]:Array Operand).map a.eval= #[a.eval x,a.eval y]:=by simp
              rw[this,ig];rfl
            . exact h.elim
          obtain⟨ks,val,R',iL,h0,h1,h2,h3⟩:=Wa hT hG h
          exact⟨ks,val,R',iL,h0,h1,h2,h3,λt a r ii off hg ho ha=>(hL ⟨t,a,r,ii,off,hg,ho,ha⟩).elim,λt b x r ii off hg ho hb=>(hS ⟨t,b,x,r,ii,off,hg,ho,hb⟩).elim,λq hg hq=>(hP ⟨q,hg,hq⟩).elim,λf args dc hg ho lR=>(hC ⟨f,args,dc,hg,ho,lR⟩).elim,λt hg ho=>(hAl ⟨t,hg,ho⟩).elim,λargs dc hg ho=>(hAp ⟨args,dc,hg,ho⟩).elim,λargs dc x l' hg ho ha he=>(hAp ⟨args,dc,hg,ho⟩).elim⟩
theorem Rc{d:D}(h:pF d=true):tj d=true:=by cases d<;>first|rfl|cases h
theorem qy{ks:List Nat}{d:D}{r i off:Nat}(h:d.gr ks=.ptr r i off):d=.ptr r i off:=by
 cases d with
 |all x=>simp only[D.gr,D.kill,D.ej]at h;cases hb:bw x ks<;>rw[hb]at h<;>cases h
 |own x y z=>simp only[D.gr,D.kill,D.ej]at h;cases hb:bw x ks<;>rw[hb]at h<;>cases h
 |ptr x y z=>simp only[D.gr,D.kill,D.ej]at h;cases hb:bw x ks<;>rw[hb]at h<;>cases h;rfl
 |pa x y z u v q=>simp only[D.gr,D.kill,D.ej]at h;cases hb:bw x ks<;>rw[hb]at h<;>cases h
 |c8 x=>simp only[D.gr,D.kill,D.ej]at h;cases hb:bw x ks<;>rw[hb]at h<;>cases h
 |gq f cs=>simp only[D.gr,D.kill,D.ej]at h;cases hb:nO (oz cs) ks<;>rw[hb]at h<;>cases h
 |dt ds=>simp[D.gr]at h
 |agg ds=>simp[D.gr,D.kill]at h
 |_=>simp[D.gr,D.kill,D.ej]at h
theorem J9{ops:Array Oper}{i a k:Nat}{o:Oper}(h:lj ops i a=true)(hk:i<=k)(ho:ops[k]?=some o):o.dst≠some a:=by
 intro hd
 have hm:o∈ops.toList.drop i:=by
  have h1:(ops.toList.drop i)[k-i]?=some o:=by
   rw[List.getElem?_drop,show i+(k-i)=k by omega];simpa using ho
  exact fW h1
 have:=List.all_eq_true.1 h o hm
 simp[hd]at this
theorem Zpj{G:List bc}{f:FuncId}(h:(match o8 G f with|some _=>true|none=>BW G f)=false):o8 G f=none/\BW G f=false:=by
 cases hg:o8 G f with
 |none=>rw[hg]at h;exact⟨rfl,h⟩
 |some k=>rw[hg]at h;cases h
def Ka(ops:Array Oper)(env:List (Nat×D))(i:Nat)(o:Oper)(q:List Nat):Prop:=
 (∀a∈q,lj ops i a=true/\HS (look env a)=true)/\∀t,o.dst=some t->lj ops (i+1) t=true/\HS (look env t)=true
theorem Vj{env:List (Nat×D)}{op:Op}{q:List Nat}(h:pH op=some q):lY env op=some q:=by
 unfold lY;rw[h]
theorem Rd{G:List bc}{ops:Array Oper}{env:List (Nat×D)}{i j:Nat}{x y:Oper}(hx:ops[i]?=some x)(hy:ops[j]?=some y)(h:MK G ops env i j=true):
 (∃t a t' b z r r' ii off mi iP,x.guard=none/\y.guard=none/\x.op=.load t (.tmp a)/\y.op=.store t' (.tmp b) z/\lj ops i a=true/\lj ops j b=true/\look env a=.ptr r ii off/\look env b=.ptr r' mi iP/\r≠r')\/
 (∃q,x.guard=none/\y.guard=none/\lY env x.op=some q/\(∀a∈q,lj ops i a=true)/\((∃t' b z r' mi iP,y.op=.store t' (.tmp b) z/\lj ops j b=true/\look env b=.ptr r' mi iP)\/∃f args dc,y.op=.call ⟨.value (.func f),args,dc⟩/\(o8 G f=none/\BW G f=false)))\/
 (∃q,x.guard=none/\pH x.op=some q/\Ka ops env i x q)\/
 (∃t a r ii off args dc x0 l,x.guard=none/\y.guard=none/\x.op=.load t (.tmp a)/\lj ops i a=true/\look env a=.ptr r ii off/\y.op=.call ⟨.builtin .append,args,dc⟩/\args.toList=.tmp x0::l/\lj ops j x0=true/\J6 (look env x0)=true)\/
 (∃t a r ii off args dc td,x.guard=none/\y.guard=none/\x.op=.load t (.tmp a)/\lj ops i a=true/\look env a=.ptr r ii off/\y.op=.call ⟨.builtin .append,args,dc⟩/\x.dst=some td/\lj ops (i+1) td=true/\pF (look env td)=true):=by
 unfold MK at h
 simp only[hx,hy]at h
 split at h
 ·rename_i t a t' b z h1 h2 h3 h4
  simp only[aE]at h
  obtain⟨g1,g2,g3⟩:=h
  split at g3
  ·rename_i r ii off r' mi iP e1 e2
   refine .inl ⟨t,a,t',b,z,r,r',ii,off,mi,iP,h1,h2,h3,h4,g1,g2,e1,e2,λe=>?_⟩
   subst e
   simp at g3
  ·rename_i sz es k off r' mi iP e1 e2
   exact .inr (.inl ⟨[a],h1,h2,by rw[h3];simp[lY,pH,bq,e1,mO],λa' ha=>by simp at ha;subst ha;exact g1,.inl ⟨t',b,z,r',mi,iP,h4,g2,e2⟩⟩)
  ·cases g3
 ·rename_i op t' b z h1 h2 h4 _
  split at h
  ·rename_i q hq
   simp only[aE]at h
   obtain⟨g1,g2,g3⟩:=h
   split at g3
   ·rename_i r' mi iP e2
    exact .inr (.inl ⟨q,h1,h2,hq,λa ha=>List.all_eq_true.1 g1 a ha,.inl ⟨t',b,z,r',mi,iP,h4,g2,e2⟩⟩)
   ·cases g3
  ·cases h
 ·rename_i op f dc h1 h2 h4
  split at h
  ·cases h
  ·rename_i Iz
   have Jag:=Zpj Iz
   split at h
   ·rename_i q hq
    exact .inr (.inl ⟨q,by assumption,by assumption,hq,λa ha=>List.all_eq_true.1 h a ha,.inr ⟨_,_,_,by assumption,Jag⟩⟩)
   ·cases h
 ·rename_i op args dc h1 h2 h4 _
  split at h
  ·rename_i q hq
   simp only[aE]at h
   refine .inr (.inr (.inl ⟨q,by assumption,hq,λa ha=>?_,λt ht=>?_⟩))
   ·have:=List.all_eq_true.1 h.1 a ha
    simpa only[aE]using this
   ·have:=h.2
    simp only[ht,aE]at this
    exact this
  ·have Re:∀{d:D},HS d=true->∃r ii off,d=.ptr r ii off:=fun{d} k=>by
    cases d<;>first|(cases k;done)|exact⟨_,_,_,rfl⟩
   rcases Bool.or_eq_true_iff.1 h with h|h
   ·unfold Dl at h
    split at h
    ·rename_i t a x0 l hxo hl
     simp only[aE]at h
     obtain⟨k1,k2,k3,k4⟩:=h
     obtain⟨r,ii,off,hr⟩:=Re k3
     exact .inr (.inr (.inr (.inl ⟨t,a,r,ii,off,dc,h1,x0,l,by assumption,by assumption,hxo,k1,hr,by assumption,hl,k2,k4⟩)))
    ·cases h
   ·unfold Dm at h
    split at h
    ·rename_i t a td hxo tR
     simp only[aE]at h
     obtain⟨k1,k2,k3,k4⟩:=h
     obtain⟨r,ii,off,hr⟩:=Re k2
     exact .inr (.inr (.inr (.inr ⟨t,a,r,ii,off,dc,h1,td,by assumption,by assumption,hxo,k1,hr,by assumption,tR,k3,k4⟩)))
    ·cases h
 ·cases h
theorem Zli{ops:Array Oper}{j:Nat}{y:Oper}(hy:ops[j]?=some y)(h:uV ops j=true):(∃t,y.guard=none/\y.op=.alloc t)/\∀u,y.dst=some u->∀k o',k≠j->ops[k]?=some o'->o'.dst≠some u:=by
 unfold uV at h
 simp only[hy]at h
 split at h
 ·rename_i t h1 h2
  refine⟨⟨t,h1,h2⟩,λu hu k o' hk dw hd=>?_⟩
  simp only[hu]at h
  have cg:=(Array.getElem?_eq_some_iff.1 dw).1
  have:=List.all_eq_true.1 h k (List.mem_range.2 cg)
  simp only[dw,aL,hd,aI]at this
  rcases this with this|this
  ·exact hk (bE this)
  ·simp at this
 ·cases h
theorem F4{G:List bc}{ops:Array Oper}{env:List (Nat×D)}(h:Rf G ops env=true){i j:Nat}{x y:Oper}(Wb:i<j)(hx:ops[i]?=some x)(hy:ops[j]?=some y):
 (x.apart ops y=true\/((Region.before ops).getD j 0).testBit i=true)/\((lu G x.op=true/\lu G y.op=true)\/((Region.before ops).getD j 0).testBit i=true\/MK G ops env i j=true\/((∃t,y.guard=none/\y.op=.alloc t)/\∀u,y.dst=some u->∀k o',k≠j->ops[k]?=some o'->o'.dst≠some u)):=by
 have hj:=(Array.getElem?_eq_some_iff.1 hy).1
 have h1:=List.all_eq_true.1 h j (List.mem_range.2 hj)
 simp only[aE]at h1
 have h2:=List.all_eq_true.1 h1.2 i (List.mem_range.2 Wb)
 unfold Ab at h2
 simp only[hx,hy,aE,aI]at h2
 exact⟨h2.1,h2.2.elim (λg=>g.elim .inl (λg=>.inr (.inl g))) (λg=>g.elim (λg=>.inr (.inr (.inl g))) (λg=>.inr (.inr (.inr (Zli hy g)))))⟩
theorem Zhb{G:List bc}{ops:Array Oper}{env:List (Nat×D)}(h:Rf G ops env=true){j:Nat}{y:Oper}(hy:ops[j]?=some y):∀e∈y.after,Region.binds .any e=true->e.on<j:=by
 have hj:=(Array.getElem?_eq_some_iff.1 hy).1
 have h1:=List.all_eq_true.1 h j (List.mem_range.2 hj)
 simp only[aE,hy]at h1
 intro e he hb
 have:=Array.all_eq_true'.1 h1.1 e he
 simp only[hb,Bool.not_true,Bool.false_or]at this
 exact lE this
theorem zaz{P:Program}{G:List bc}{ops:Array Oper}{M:Nat}{c:Ctx}{w:World}{env:List (Nat×D)}{R:Rows}{a:Act}{i:Nat}{o:Oper}{ks:List Nat}{val:D}{R':Rows}(hi:ops[i]?=some o)
 (hm:Mem c w) (hb:c.base<=w.heap.size) (hR:∀r,c.R r=R.getD r none) (eu:∀t∈o.looksAt ops,Rep c w (look env t) (a.tmps.getD t undef)) (hG:nA P G M ops o env R ks val R') {K:Act->World->Prop} {Q:Exit->Act->World->Prop}
 (hK:∀v w' c',(∀k,bw k ks=true->M<=k)->jF ks c w c' w'->(∀r,c'.R r=R'.getD r none)->Rep c' w' val v->K (a.put o.dst v) w'):wpOp P ops Q i K a w:=by
 have hx:∀x∈o.op.operands,Rep c w (bq env x) (a.eval x):=λx hx=>by
  cases x with
  |tmp t=>
   refine eu t ?_
   unfold Oper.looksAt
   exact gP _ (List.mem_filterMap.2 ⟨.tmp t,by simpa using hx,rfl⟩)
  |const v=>
   simp only[bq,Act.eval]
   cases hv:Gc v with
   |none=>trivial
   |some d=>exact Nf hv c w
  |global g=>trivial
  |func f=>exact Kx f
 have run:pI P G M o (bq env) R ks val R'->o.nm P a w K Q:=λhX=>hX.toK.2 c w a hm hb hR hx K Q λv w' c' h1 h2 h3=>hK v w' c' hX.toK.1 h1 h2 h3
 have skip:ks=[]->val=.dt []->R'=R->K (a.put o.dst undef) w:=λe0 e1 e2=>by
  subst e0;subst e1;subst e2
  exact hK undef w c (λk hk=>by simp[bw]at hk) (lP.toK ⟨hm,jk.refl _ _,Fr.refl _ _,λb hb=>.inl hb,λr row hr v=>.inl ⟨⟨row,hr⟩,v,rfl⟩⟩) hR (Sy _ _)
 unfold wpOp
 simp only[hi]
 unfold nA at hG
 cases hg:o.guard with
 |none=>
  simp only[hg]at hG
  have hw:Region.wanted o (yielded ops a.tmps)=true:=by simp[Region.wanted,hg]
  rw[if_pos hw]
  exact run hG
 |some jw=>
  obtain⟨j,want⟩:=jw
  simp only[hg]at hG
  obtain⟨g,h2,hG⟩:=hG
  have hr:=eu g (by
   unfold Oper.looksAt
   refine gO _ ?_
   simp only[hg,h2];simp)
  rcases hG with⟨b,h3,h4⟩|⟨h3,e0,e1,e2⟩
  rotate_left
  ·rw[h3]at hr
   rw[if_neg (by rw[Sz (o:=o) hg h2 hr];simp)]
   exact skip e0 e1 e2
  rw[h3]at hr
  have hw:=SA (o:=o) hg h2 hr
  by_cases e:b=want
  ·rw[if_pos e]at h4
   rw[if_pos (by rw[hw];simpa using e)]
   exact run h4
  ·rw[if_neg e]at h4
   rw[if_neg (by rw[hw];simpa using e)]
   exact skip h4.1 h4.2.1 h4.2.2
structure Vk(P:Program)(G:List bc)(N M:Nat)(ops:Array Oper)(s:Nat->St)(ks:Nat->List Nat)(val:Nat->D):Prop extends Chain P G N M ops s ks val where
 mH:∀(i:Nat) (o:Oper),ops[i]?=some o->J5 P G o (s i).env (s i).rows (ks i) (val i) (s (i+1)).rows
theorem Ze6{P:Program}{T:fq}(hT:jz P T){G:List bc}(hG:jT P G){N M:Nat}{ops:Array Oper}{K:St->Prop}:∀(l:List Oper) (k:Nat) (st:St),ops.toList.drop k=l->mb T G N M ops l st K->
 ∃ (s:Nat->St) (ks:Nat->List Nat) (val:Nat->D),s k=st/\K (s (k+l.length))/\(∀(i:Nat) (o:Oper),k<=i->ops[i]?=some o->nA P G M ops o (s i).env (s i).rows (ks i) (val i) (s (i+1)).rows)/\
  (∀(i:Nat) (o:Oper) (t:Nat),k<=i->ops[i]?=some o->look (s (i+1)).env t=if o.dst=some t then val i else look (se (ks i) (s i).env) t)/\(∀(i:Nat) (o:Oper) (t:Nat),k<=i->ops[i]?=some o->o.dst=some t->t<N)/\
  (∀(i:Nat) (o:Oper),k<=i->ops[i]?=some o->J5 P G o (s i).env (s i).rows (ks i) (val i) (s (i+1)).rows)
 |[],k,st,hk,h=>by
  have hlen:ops.size<=k:=by
   have:=congrArg List.length hk
   simp at this;omega
  have no:∀(i:Nat) (o:Oper),k<=i->ops[i]?=some o->False:=λi o hi ho=>by
   have:=(Array.getElem?_eq_some_iff.1 ho).1;omega
  exact⟨λ_=>st,λ_=>[],λ_=>.dead,rfl,h,λi o hi ho=>(no i o hi ho).elim,λi o t hi ho=>(no i o hi ho).elim,λi o t hi ho=>(no i o hi ho).elim,λi o hi ho=>(no i o hi ho).elim⟩
 |o ::l,k,st,hk,h=>by
  have cg:k<ops.toList.length:=by
   by_cases cg:k<ops.toList.length
   ·exact cg
   ·rw[List.drop_eq_nil_of_le (by omega)]at hk;cases hk
  rw[List.drop_eq_getElem_cons cg]at hk
  have ho:ops[k]?=some o:=by
   have:=(List.cons.inj hk).1
   rw[<-this]
   simp at cg
   simp[cg]
  obtain⟨kk,v,R',iL,h1,h2,h3,h4,h5⟩:=Zou hT hG h
  obtain⟨s,ks,val,g1,g2,g3,g4,g5,g6⟩:=Ze6 hT hG l (k+1) _ (List.cons.inj hk).2 h4
  refine⟨λi=>if i=k then st else s i,λi=>if i=k then kk else ks i,λi=>if i=k then v else val i,by simp,?_,λi p hi hp=>?_,λi p t hi hp=>?_,λi p t hi hp hd=>?_,λi p hi hp=>?_⟩
  ·simp only[List.length_cons]
   rw[if_neg (by omega),show k+(l.length+1)=k+1+l.length by omega]
   exact g2
  ·by_cases e:i=k
   ·subst e
    rw[ho]at hp;cases hp
    simp only[if_true,show¬i+1=i by omega,if_false,g1]
    exact h3
   ·simp only[if_neg e,if_neg (show¬i+1=k by omega)]
    exact g3 i p (by omega) hp
  ·by_cases e:i=k
   ·subst e
    rw[ho]at hp;cases hp
    simp only[if_true,show¬i+1=i by omega,if_false,g1]
    cases tR:o.dst with
    |none=>simp[sf,h1]
    |some u=>simp only[sf,Bl,Option.some.injEq,h1]
   ·simp only[if_neg e,if_neg (show¬i+1=k by omega)]
    exact g4 i p t (by omega) hp
  ·by_cases e:i=k
   ·subst e
    rw[ho]at hp;cases hp
    exact h2 t hd
   ·exact g5 i p t (by omega) hp hd
  ·by_cases e:i=k
   ·subst e
    rw[ho]at hp;cases hp
    simp only[if_true,show¬i+1=i by omega,if_false,g1]
    exact h5
   ·simp only[if_neg e,if_neg (show¬i+1=k by omega)]
    exact g6 i p (by omega) hp
section
variable {P:Program} {G:List bc} {N M:Nat} {ops:Array Oper} {s:Nat->St} {ks:Nat->List Nat} {val:Nat->D} (hc:Vk P G N M ops s ks val)
include hc
theorem Es{i a r ii off:Nat}(hn:lj ops i a=true)(h:look (s ops.size).env a=.ptr r ii off):∀{k:Nat},i<=k->k<=ops.size->look (s k).env a=.ptr r ii off:=by
 intro k nZ hk
 obtain⟨n,QR⟩:∃n,ops.size=k+n:=⟨ops.size-k,by omega⟩
 have:∀n k,i<=k->k+n<=ops.size->look (s (k+n)).env a=.ptr r ii off->look (s k).env a=.ptr r ii off:=by
  intro n
  induction n with
  |zero=>intro k _ _ h;exact h
  |succ n ih=>
   intro k h1 h2 h3
   have ho:ops[k]?=some ops[k]:=aJ (by omega)
   have h4:=ih (k+1) (by omega) (by omega) (by rw[show k+1+n=k+(n+1) by omega];exact h3)
   rw[hc.env k _ a ho,if_neg (J9 hn h1 ho),BV]at h4
   exact qy h4
 exact this n k nZ (by omega) (by rw[<-QR];exact h)
theorem Et{i a:Nat}(hn:lj ops i a=true)(h:tj (look (s ops.size).env a)=true):∀{k:Nat},i<=k->k<=ops.size->look (s k).env a=look (s ops.size).env a:=by
 intro k nZ hk
 obtain⟨n,QR⟩:∃n,ops.size=k+n:=⟨ops.size-k,by omega⟩
 have:∀n k,i<=k->k+n<=ops.size->∀p,tj p=true->look (s (k+n)).env a=p->look (s k).env a=p:=by
  intro n
  induction n with
  |zero=>intro k _ _ p _ h;exact h
  |succ n ih=>
   intro k h1 h2 p hp h3
   have ho:ops[k]?=some ops[k]:=aJ (by omega)
   have h4:=ih (k+1) (by omega) (by omega) p hp (by rw[show k+1+n=k+(n+1) by omega];exact h3)
   rw[hc.env k _ a ho,if_neg (J9 hn h1 ho),BV]at h4
   exact Ziv hp h4
 exact this n k nZ (by omega) _ h (by rw[<-QR])
theorem Zn6{i:Nat}{op:Op}{q:List Nat}(h:lY (s ops.size).env op=some q)(hq:∀a∈q,lj ops i a=true){k:Nat}(h1:i<=k)(h2:k<=ops.size):lY (s k).env op=some q:=
 Zom h λa ha hs=>Et hc (hq a ha) hs h1 h2
theorem Qx{dm:Nat->Bool}{c:Nat}{t:Nat}:∀{n:Nat},(∀i o,i<n->ops[c+i]?=some o->o.dst=some t->dm (c+i)=false)->jd ops s val dm c n t=look (s c).env t
 |0,_=>rfl
 |n + 1,h=>by
  simp only[jd]
  rw[if_neg]
  ·exact Qx (λi o hi=>h i o (by omega))
  ·rintro⟨g1,g2⟩
   cases hk:ops[c+n]? with
   |none=>rw[hk]at g2;cases g2
   |some o=>
    rw[hk]at g2
    rw[h n o (by omega) hk g2]at g1;cases g1
theorem Zi3{dm:Nat->Bool}{c d:Nat}{t:Nat}(hq:∀(i:Nat) (o:Oper),c<=i->i<d->ops[i]?=some o->lu G o.op=true)(hd:d<=ops.size):∀{n:Nat},c+n<=d->(∀i o,i<n->ops[c+i]?=some o->o.dst=some t->dm (c+i)=true)->jd ops s val dm c n t=look (s (c+n)).env t
 |0,_,_=>rfl
 |n +1,hn,hl=>by
  have ho:ops[c+n]?=some ops[c+n]:=aJ (by omega)
  simp only[jd,ho,aL]
  rw[show c+(n+1)=(c+n)+1 by omega,hc.toChain.EF ho (hq _ _ (by omega) (by omega) ho) t]
  by_cases th:ops[c+n].dst=some t
  ·rw[if_pos ⟨hl n _ (by omega) ho th,th⟩,if_pos th]
  ·rw[if_neg (λg=>th g.2),if_neg th]
   exact Zi3 hq hd (by omega) (λi o hi=>hl i o (by omega))
theorem Z90{dm:Nat->Bool}{c d:Nat}(hq:∀(i:Nat) (o:Oper),c<=i->i<d->ops[i]?=some o->lu G o.op=true)(hd:d<=ops.size):∀{n:Nat},c+n<=d->(∀i,i<n->dm (c+i)=true\/(s (c+i+1)).rows=(s (c+i)).rows)->∀r,kE s dm c n r=(s (c+n)).rows.getD r none
 |0,_,_,r=>rfl
 |n + 1,hn,hl,r=>by
  simp only[kE]
  rw[show c+(n+1)=c+n+1 by omega]
  have hlen:=Kv hc.toChain hq hd (show c<=c+n by omega) (show c+n<=c+n+1 by omega) (by omega)
  have ih:=Z90 hq hd (n:=n) (by omega) (λi hi=>hl i (by omega)) r
  rcases hl n (by omega)with h|h
  ·simp only[h,true_and]
   split
   ·rfl
   ·rw[ih]
    by_cases h2:r<(s (c+n)).rows.length
    ·exact(Kw hc.toChain hq hd (by omega) (by omega) (by omega) h2).symm
    ·simp only[aK]
     rw[aM (by omega),aM (by omega)]
  ·rw[if_neg (by rw[h];omega),ih,h]
theorem Zez{dm:Nat->Bool}{c d:Nat}(hq:∀(i:Nat) (o:Oper),c<=i->i<d->ops[i]?=some o->lu G o.op=true)(hd:d<=ops.size){r:Nat}(hr:r<(s c).rows.length):∀{n:Nat},c+n<=d->kE s dm c n r=(s c).rows.getD r none
 |0,_=>rfl
 |n+1,hn=>by
  simp only[kE]
  have hlen:=Kv hc.toChain hq hd (show c<=c by omega) (show c<=c+n by omega) (by omega)
  rw[if_neg (by omega)]
  exact Zez hq hd hr (by omega)
end
structure tl(w0:World)(cx:Ctx)(w:World)(b:Nat)(arr:Array Value)(ty:TypeId):Prop where
 jA:w0.heap.size<=b
 lt:b<w.heap.size
 here:w.heap[b]?=some (.cells arr ty (0,0))
 fu:¬cx.I b
 row:∀r row,cx.R r=some row->¬cx.V r->cx.ρ r≠b
theorem tl.cu{w0 w w':World}{c c':Ctx}{ks:List Nat}{b:Nat}{arr:Array Value}{ty:TypeId}(h:tl w0 c w b arr ty)(n:jF ks c w c' w'):tl w0 c' w' b arr ty:=by
 refine⟨h.jA,bI h.lt n.fr.size,(n.fr.heap b h.lt fun⟨r,x,h1,h2,h3⟩=>h.row r x h1 h2 h3).trans h.here,λhb=>?_,λr row hr hv e=>?_⟩
 ·rcases n.fu b hb with g|⟨s,x,_,g1,g2,g3⟩|g
  ·exact h.fu g
  ·exact h.row s x g1 g2 g3
  ·have:=h.lt;omega
 ·rcases n.og r row hr hv with⟨⟨x,g1⟩,g2,g3⟩|⟨s,x,_,g1,g2,g3⟩|g
  ·exact h.row r x g1 g2 (by rw[<-g3];exact e)
  ·exact h.row s x g1 g2 (by rw[<-g3];exact e)
  ·have:=h.lt;omega
theorem xy{a:Act}{o:Oper}{v:Value}{u:Nat}(h:o.dst≠some u):(a.put o.dst v).tmps.getD u undef=a.tmps.getD u undef:=by
 cases ho:o.dst with
 |none=>simp[Act.put]
 |some x=>
  have gl:x≠u:=λe=>h (by rw[ho,e])
  simp[Act.put,aQ gl]
theorem zT{a:Act}{dst:Option Tmp}{v:Value}{u:Nat}(h:dst=some u)(cg:u<a.tmps.size):(a.put dst v).tmps.getD u undef=v:=by
 subst h
 simp[Act.put,aP,cg]
def ML(P:Program)(ops:Array Oper)(s:Nat->St)(val:Nat->D)(w0:World)(cx:Ctx)(w:World)(a:Act)(i b:Nat):Prop:=
 ∃ o t row arr,ops[i]?=some o/\o.guard=none/\o.op=.alloc t/\Vi P o row arr/\val i=.ptr (s i).rows.length 0 0/\(s (i+1)).rows=(s i).rows++[some row]/\tl w0 cx w b arr row.ty/\
  (∀u,o.dst=some u->a.tmps.getD u undef=.pointer (some ⟨b,0,none⟩))/\∀u,o.dst=some u->∀k o',k≠i->ops[k]?=some o'->o'.dst≠some u
theorem ML.cu{P:Program}{ops:Array Oper}{s:Nat->St}{val:Nat->D}{w0 w w':World}{c c':Ctx}{ks:List Nat}{a:Act}{i k b:Nat}{o:Oper}{v:Value}(h:ML P ops s val w0 c w a k b)(n:jF ks c w c' w')(nZ:i≠k)(ho:ops[i]?=some o):ML P ops s val w0 c' w' (a.put o.dst v) k b:=by
 obtain⟨o',t,row,arr,g1,g2,g3,g4,g5,g6,g7,g8,g9⟩:=h
 exact⟨o',t,row,arr,g1,g2,g3,g4,g5,g6,g7.cu n,λu hu=>by rw[xy (g9 u hu i o nZ ho)];exact g8 u hu,g9⟩
theorem Qps{c:Ctx}{w:World}(hm:Mem c w)(o:Obj):jk c w c (w.alloc o):=
 ⟨rfl,aO _,λb hb=>⟨hb,Ay w o b (hm.fu b hb).1⟩,λr x hr=>⟨x,hr,rfl,rfl,rfl,rfl,rfl,Iff.rfl,λnv arr ha=>⟨arr,by rw[Ay w o _ (hm.lt hr nv)];exact ha,rfl⟩⟩⟩
theorem Qwa(w:World)(o:Obj):(w.alloc o).heap.size=w.heap.size+1:=by show(w.heap.push o).size=_;simp
theorem Zpx{c:Ctx}{w:World}(hm:Mem c w)(o:Obj):Mem c (w.alloc o):=
 ⟨λr row hr=>tX (Qps hm o) rfl Iff.rfl (λnv=>Ay w o _ (hm.lt hr nv)) (hm.row r row hr),hm.inj,(λb hb=>⟨by have:=(hm.fu b hb).1;rw[Qwa];omega,(hm.fu b hb).2⟩),by have:=hm.top;rw[Qwa];omega,hm.kN.mono (Qps hm o).I⟩
theorem Zgg{c:Ctx}{w:World}{k:Nat}(hk:c.R k=none)(row:Row)(b:Nat):jk c w (c.add k row b) w:=by
 refine⟨rfl,aO _,λb hb=>⟨hb,rfl⟩,λr x hr=>?_⟩
 have gl:r≠k:=λe=>by rw[e,hk]at hr;cases hr
 exact⟨x,by simp[Ctx.add,gl,hr],rfl,rfl,rfl,rfl,by simp[Ctx.add,gl],by simp[Ctx.add,gl],λnv arr ha=>⟨arr,ha,rfl⟩⟩
theorem xaz{P:Program}{o:Oper}{c:Ctx}{w w0:World}(hm:Mem c w){k:Nat}(hk:c.R k=none){row:Row}{b:Nat}{arr:Array Value}(hA:Vi P o row arr)(hl:tl w0 c w b arr row.ty):Mem (c.add k row b) w:=by
 have hg:=Zgg (w:=w) hk row b
 have jA:∀r x,r≠k->(c.add k row b).R r=some x->c.R r=some x/\(c.add k row b).ρ r=c.ρ r/\((c.add k row b).V r↔c.V r):=λr x e h=>⟨by simpa[Ctx.add,e]using h,by simp[Ctx.add,e],by simp[Ctx.add,e]⟩
 refine⟨λr x hr=>?_,λr s x y hr hs v1 v2 he=>?_,λb' hb=>⟨(hm.fu b' hb).1,λr x hr v=>?_⟩,hm.top,hm.kN⟩
 ·by_cases e:r=k
  ·subst e
   simp only[Ctx.add,if_true,Option.some.injEq]at hr
   subst hr
   obtain⟨e,h1,h2,h3,h4⟩:=hA.cells
   refine .inr ⟨by simp[Ctx.add],arr,by simp only[Ctx.add,if_true];exact hl.here,hA.sz,?_⟩
   rw[if_pos hA.box]
   exact⟨e,h1,h2,h3,h4 _ _⟩
  ·obtain⟨g1,g2,g3⟩:=jA r x e hr
   exact tX hg g2 g3 (λ_=>rfl) (hm.row r x g1)
 ·by_cases e1:r=k<;>by_cases e2:s=k
  ·rw[e1,e2]
  ·obtain⟨g1,g2,g3⟩:=jA s y e2 hs
   exfalso
   refine hl.row s y g1 (λe=>v2 (g3.2 e)) ?_
   rw[<-g2,<-he,e1];simp[Ctx.add]
  ·obtain⟨g1,g2,g3⟩:=jA r x e1 hr
   exfalso
   refine hl.row r x g1 (λe=>v1 (g3.2 e)) ?_
   rw[<-g2,he,e2];simp[Ctx.add]
  ·obtain⟨g1,g2,g3⟩:=jA r x e1 hr
   obtain⟨k1,k2,k3⟩:=jA s y e2 hs
   exact hm.inj r s x y g1 k1 (λe=>v1 (g3.2 e)) (λe=>v2 (k3.2 e)) (by rw[<-g2,<-k2];exact he)
 ·by_cases e:r=k
  ·subst e
   simp only[Ctx.add,if_true]
   intro e;subst e
   exact hl.fu hb
  ·obtain⟨g1,g2,g3⟩:=jA r x e hr
   rw[g2];exact(hm.fu b' hb).2 r x g1 (λe=>v (g3.2 e))
def Rg(ops:Array Oper)(env:List (Nat×D))(i:Nat)(o:Oper):Prop:=∃td,o.dst=some td/\lj ops (i+1) td=true/\pF (look env td)=true
def Rh(ops:Array Oper)(s:Nat->St)(ks:Nat->List Nat)(i c:Nat):Prop:=
 (∃o t a r ii off row ak,ops[i]?=some o/\o.guard=none/\o.op=.load t (.tmp a)/\lj ops i a=true/\look (s ops.size).env a=.ptr r ii off/\(s i).rows.getD r none=some row/\(s c).rows.getD r none=some ak/\((ak=row/\∀k,i<k->k<c->ks k=[])\/(Rg ops (s ops.size).env i o/\∃L:List (List Nat),ak=L.foldl (λr k=>Row.kill k r) row/\∀kk∈L,∃j,i<j/\j<c/\kk=ks j)))\/
 (∃o q,ops[i]?=some o/\o.guard=none/\lY (s ops.size).env o.op=some q/\(∀a∈q,lj ops i a=true)/\((∀k,i<k->k<c->ks k=[])\/Ka ops (s ops.size).env i o q))
structure Inv2(P:Program)(G:List bc)(N M:Nat)(ops:Array Oper)(s:Nat->St)(ks:Nat->List Nat)(val:Nat->D)(c0:Ctx)(w0:World)(dm:Nat->Bool)(a:Act)(w:World)(c d:Nat):Prop where
 cd:c<=d
 dn:d<=ops.size
 pre:∀i,i<c->dm i=true\/Rh ops s ks i c
 quiet:∀(i:Nat) (o:Oper),c<=i->i<d->ops[i]?=some o->lu G o.op=true
 wr:∀(o:Oper),ops[d]?=some o->lu G o.op=false
 closed:∀j,dm j=true->∀(o:Oper),ops[j]?=some o->∀e∈o.after,Region.binds .any e=true->dm e.on=true
 size:N<=a.tmps.size
 defers:mc w0.heap.size w a.defers
 gh:c0.base<=w0.heap.size
 gw:∀r row,c0.R r=some row->r<M
 ctx:∃(cx:Ctx) (B:Nat->Nat),Mem cx w/\(∀r,cx.R r=kE s dm c (d-c) r)/\(∀t,(∀k o,k<c->dm k=false->ops[k]?=some o->o.dst≠some t)->(∀k o,d<=k->dm k=true->ops[k]?=some o->o.dst≠some t)->Rep cx w (jd ops s val dm c (d-c) t) (a.tmps.getD t undef))/\Aj c0 w0 cx w/\
  (∀i,d<=i->dm i=true->ML P ops s val w0 cx w a i (B i))/\(∀i j,d<=i->d<=j->dm i=true->dm j=true->B i=B j->i=j)
theorem Vl{c':Ctx}{w':World}{a:Act}{o:Oper}{t:Nat}{d:D}{v:Value}{N:Nat}(hs:N<=a.tmps.size)(hd:∀u,o.dst=some u->u<N)(h1:o.dst=some t->Rep c' w' d v)(h2:o.dst≠some t->Rep c' w' d (a.tmps.getD t undef)):Rep c' w' d ((a.put o.dst v).tmps.getD t undef):=by
 cases ho:o.dst with
 |none=>simpa[Act.put]using h2 (by rw[ho];simp)
 |some u=>
  by_cases e:u=t
  ·subst e
   have hu:u<a.tmps.size:=bI (hd u ho) hs
   simpa[Act.put,aP,hu]using h1 ho
  ·have:=h2 (by rw[ho];intro h;exact e (Option.some.inj h))
   simpa[Act.put,aQ e]using this
theorem Ri{P:Program}{G:List bc}{N M:Nat}{ops:Array Oper}{s:Nat->St}{ks:Nat->List Nat}{val:Nat->D}(hc:Vk P G N M ops s ks val){c0:Ctx}{w0 w:World}{dm:Nat->Bool}{a:Act}{c d:Nat}
 (hq:∀(i:Nat) (o:Oper),c<=i->i<d->ops[i]?=some o->lu G o.op=true) (hd:d<=ops.size)
 (h:∃(cx:Ctx) (B:Nat->Nat),Mem cx w/\(∀r,cx.R r=(s c).rows.getD r none)/\(∀t,(∀k o,k<c->dm k=false->ops[k]?=some o->o.dst≠some t)->(∀k o,c<=k->dm k=true->ops[k]?=some o->o.dst≠some t)->Rep cx w (look (s c).env t) (a.tmps.getD t undef))/\Aj c0 w0 cx w/\
  (∀i,c<=i->dm i=true->ML P ops s val w0 cx w a i (B i))/\(∀i j,c<=i->c<=j->dm i=true->dm j=true->B i=B j->i=j)):
 ∀ n,c+n<=d->∃(cx:Ctx) (B:Nat->Nat),Mem cx w/\(∀r,cx.R r=kE s dm c n r)/\(∀t,(∀k o,k<c->dm k=false->ops[k]?=some o->o.dst≠some t)->(∀k o,c+n<=k->dm k=true->ops[k]?=some o->o.dst≠some t)->Rep cx w (jd ops s val dm c n t) (a.tmps.getD t undef))/\Aj c0 w0 cx w/\
  (∀i,c+n<=i->dm i=true->ML P ops s val w0 cx w a i (B i))/\(∀i j,c+n<=i->c+n<=j->dm i=true->dm j=true->B i=B j->i=j):=by
 have hlen:∀k l,c<=k->k<=l->l<=d->(s k).rows.length<=(s l).rows.length:=λk l h1 h2 h3=>Kv hc.toChain hq hd h1 h2 h3
 have Rj:∀n,c+n<=d->∀r,(s (c+n)).rows.length<=r->kE s dm c n r=none:=by
  intro n
  induction n with
  |zero=>intro _ r hr;simp only[kE];simp only[bG]at hr;rw[aK,aM hr];rfl
  |succ n ih=>
   intro hn r hr
   simp only[kE]
   have:=hlen (c+n) (c+n+1) (by omega) (by omega) (by omega)
   rw[show c+(n+1)=c+n+1 by omega]at hr
   rw[if_neg (by omega)]
   exact ih (by omega) r (by omega)
 intro n
 induction n with
 |zero=>intro _;simpa only[kE,jd,bG]using h
 |succ n ih=>
  intro hn
  obtain⟨cx,B,hm,hR,hE,nY,nP,oD⟩:=ih (by omega)
  cases hl:dm (c+n)with
  |false=>
   refine⟨cx,B,hm,λr=>?_,λt ht he=>?_,nY,λi hi Hr=>nP i (by omega) Hr,λi j hi hj=>oD i j (by omega) (by omega)⟩
   ·simp only[kE,hl,aN,false_and,if_false];exact hR r
   ·simp only[jd,hl,aN,false_and,if_false]
    refine hE t ht λk o hk oG=>he k o ?_ oG
    by_cases e:k=c+n
    ·rw[e,hl]at oG;cases oG
    ·omega
  |true=>
   obtain⟨o,ty,row,arr,g1,g2,g3,g4,g5,g6,g7,g8,g9⟩:=nP (c+n) (aO _) hl
   have hk:cx.R (s (c+n)).rows.length=none:=by rw[hR];exact Rj n (by omega) _ (aO _)
   have hg:=Zgg (w:=w) hk row (B (c+n))
   refine⟨cx.add (s (c+n)).rows.length row (B (c+n)),B,xaz hm hk g4 g7,λr=>?_,λt ht he=>?_,⟨nY.bz.trans hg,nY.fr,nY.fu,λr x hr hv=>?_,nY.xb⟩,λi hi Hr=>?_,λi j hi hj=>oD i j (by omega) (by omega)⟩
   ·simp only[kE,hl,true_and,g6,lA,List.length_singleton]
    by_cases e:r=(s (c+n)).rows.length
    ·subst e
     rw[if_pos ⟨aO _,Nat.lt_succ_self _⟩]
     simp[Ctx.add,aK]
    ·rw[if_neg (by omega)]
     simp only[Ctx.add,if_neg e];exact hR r
   ·simp only[jd,hl,true_and,g1,aL]
    split
    ·rename_i tR
     rw[g8 t tR,g5]
     obtain⟨e,q1,_⟩:=g4.cells
     exact⟨row,(Ctx.ja _ _ _ _).1,by simp[Ctx.add],by rw[q1];simp[ao.l],by simp[(Ctx.ja _ _ _ _).2]⟩
    ·rename_i tR
     refine Ak hg (hE t ht λk o' EE oG dw=>?_)
     by_cases e:k=c+n
     ·subst e;rw[g1]at dw;cases dw;exact tR
     ·exact he k o' (by omega) oG dw
   ·by_cases e:r=(s (c+n)).rows.length
    ·right;right
     rw[e];simp only[Ctx.add,if_true];exact g7.jA
    ·have nB:cx.R r=some x:=by simpa[Ctx.add,e]using hr
     have Mz:¬cx.V r:=by simpa[Ctx.add,e]using hv
     have:=nY.og r x nB Mz
     simpa only[Ctx.add,if_neg e]using this
   ·obtain⟨o',t',ak,iO,f1,f2,f3,f4,f5,f6,f7,f8,f9⟩:=nP i (by omega) Hr
    refine⟨o',t',ak,iO,f1,f2,f3,f4,f5,f6,⟨f7.jA,f7.lt,f7.here,f7.fu,λr x hr hv e'=>?_⟩,f8,f9⟩
    by_cases e:r=(s (c+n)).rows.length
    ·rw[e]at e'
     simp only[Ctx.add,if_true]at e'
     have:=oD (c+n) i (aO _) (by omega) hl Hr e'
     omega
    ·exact f7.row r x (by simpa[Ctx.add,e]using hr) (by simpa[Ctx.add,e]using hv) (by simpa only[Ctx.add,if_neg e]using e')
section
variable {P:Program} {G:List bc} {N M:Nat} {ops:Array Oper} {s:Nat->St} {ks:Nat->List Nat} {val:Nat->D} (hc:Vk P G N M ops s ks val) (mI:Rf G ops (s ops.size).env=true)
include hc mI
theorem zy {c0 :Ctx}{w0:World}{dm gk:Nat->Bool}{a:Act}{w:World}{c d i:Nat}{o:Oper}(hI:Inv2 P G N M ops s ks val c0 w0 dm a w c d)(ho:ops[i]? =some o)(h0:dm i=false)(h1:gk i=true)(h2: ∀k,k≠i->gk k=dm k)
    (Nb: ∀e∈o.after,Region.binds .any e=true->dm e.on=true) {K:Act->World->Prop} {Q:Exit->Act->World->Prop} (hK: ∀a' w' c' d',Inv2 P G N M ops s ks val c0 w0 gk a' w' c' d'->K a' w'):wpOp P ops Q i K a w:=by
  have cg:=(Array.getElem?_eq_some_iff.1 ho).1
  have pX: ∀k,((Region.before ops).getD i 0).testBit k=true->dm k=true:=λk hk=>
    Sq (listed:=λk=>dm k=true) hI.closed (λo' je=>by rw[ho]at je;cases je;exact Nb) hk
  have nX: ∀j k,dm j=true->((Region.before ops).getD j 0).testBit k=true->dm k=true:=λj k hj hk=>
    Sq (listed:=λk=>dm k=true) hI.closed (hI.closed j hj) hk
  have tS: ∀j,gk j=true-> ∀(o:Oper),ops[j]? =some o-> ∀e∈o.after,Region.binds .any e=true->gk e.on=true:=by
    intro j hj o' je e he hb
    have gl:dm e.on=true:=by
      by_cases e':j=i
      . subst e';rw[ho]at je;cases je;exact Nb e he hb
      . rw[h2 j e']at hj;exact hI.closed j hj o' je e he hb
    rw[h2 e.on (λe'=>by rw[e',h0]at gl;cases gl)]
    exact gl
  have DF: ∀{x:Oper} {t:TypeId} {y:Operand},x.op= .load t y->lu G x.op=true:=λh=>by rw[h];rfl
  have hpu: ∀{x:Oper} {env:List (Nat×D)} {q:List Nat},lY env x.op=some q->lu G x.op=true:=λh=>by
    unfold lu;rw[(Z3z (G:=G) h).1];rfl
  have Hq: ∀{x:Oper} {t:TypeId},x.op= .alloc t->lu G x.op=true:=λh=>by rw[h];rfl
  obtain⟨cx,B,hm,hR,hE,nY,nP,oD⟩:=hI.ctx
  have FP:dm d=false:=by
    cases hl:dm d with
    |false=>rfl
    | true=>
      obtain⟨o',t,_,_,g1,_,g3,_⟩:=nP d (aO _) hl
      have:=hI.wr _ g1
      rw[Hq g3]at this;cases this
  have hid:i<=d\/(d<i/\(∃t,o.guard=none/\o.op= .alloc t)/\ ∀u,o.dst=some u-> ∀k o',k≠i->ops[k]? =some o'->o'.dst≠some u):=by
    by_cases h:i<=d
    . exact .inl h
    . right
      have BJ:ops[d]? =some ops[d]:=aJ (by omega)
      have:=(F4 mI (show d<i by omega) BJ ho).2
      rcases this with⟨hq,_⟩|hb|hb|hb
      . rw[hI.wr _ BJ]at hq;cases hq
      . have:=pX d hb
        rw[FP]at this;cases this
      . rcases Rd BJ ho hb with⟨t,b,t',b',z,r,r',ii,off,mi,iP,g1,g2,g3,_⟩|⟨q,g1,g2,g3,_⟩|⟨q,g1,g3,_⟩|⟨_,_,_,_,_,_,_,_,_,g1,g2,g3,_⟩|⟨_,_,_,_,_,_,_,_,g1,g2,g3,_⟩
        . have:=DF g3
          rw[hI.wr _ BJ]at this;cases this
        . have:=hpu g3
          rw[hI.wr _ BJ]at this;cases this
        . have:=hpu (Vj (env:=[]) g3)
          rw[hI.wr _ BJ]at this;cases this
        . have:=DF g3
          rw[hI.wr _ BJ]at this;cases this
        . have:=DF g3
          rw[hI.wr _ BJ]at this;cases this
      . exact⟨by omega,hb⟩
  have Wo:=hI.cd
  have Ig:=hI.dn
  have jj:cx.base<=w.heap.size:=by rw[nY.bz.base];exact Nat.le_trans hI.gh nY.fr.size
  have seen: ∀k o' t,k<i->ops[k]? =some o'->o'.dst=some t->t∈o.looksAt ops->dm k=true:=by
    intro k o' t hk je hd ht
    rcases(F4 mI hk je ho).1 with tT|hb
    . exact((Gb tT).2.1 hd ht).elim
    . exact pX _ hb
  have Dn: ∀k o' t,d<=k->dm k=true->ops[k]? =some o'->t∈o.looksAt ops->i<=d->o'.dst≠some t:=by
    intro k o' t hk hl je ht hid hd
    have nZ:i<k:=by
      by_cases e:k=i
      . rw[e,h0]at hl;cases hl
      . omega
    rcases(F4 mI nZ ho je).1 with tT|hb
    . exact(Gb tT).2.2 hd ht
    . have:=nX _ _ hl hb
      rw[h0]at this;cases this
  rcases hid with hid|⟨hdi,⟨t0,hg0,ho0⟩,KB⟩
  rotate_left
  ·
    obtain⟨hks,row,arr,hA,hv,cw⟩:=(hc.mH i o ho).al t0 hg0 ho0
    unfold wpOp
    simp only[ho]
    have hw:Region.wanted o (yielded ops a.tmps)=true:=by simp [Region.wanted,hg0]
    rw[if_pos hw]
    refine Gi (hA.run a.eval w) ?_
    have hmn:=Zpx hm (.cells arr row.ty)
    have wx:=Qps hm (.cells arr row.ty)
    have hn:jF [] cx w cx (w.alloc (.cells arr row.ty)):=lP.toK ⟨hmn,wx,Fr.alloc _ w _,λb hb=> .inl hb,λr row hr v=> .inl ⟨⟨row,hr⟩,v,rfl⟩⟩
    refine hK _ _ c d ⟨hI.cd,hI.dn,λk hk=>by rw[h2 k (by omega)];exact hI.pre k hk,hI.quiet,hI.wr,tS,?_,?_,hI.gh,hI.gw,cx,λk=>if k=i then w.heap.size else B k,hmn,λr=> ?_,λt ht he=> ?_,nY.step (ks:=[]) (λk hk=>by simp [bw]at hk) hI.gw hn,λk hdk hl=> ?_,λk j hk hj oG uH e=> ?_⟩
    . cases hd:o.dst<;>simp [Act.put]<;>exact hI.size
    . first|exact mc.put (hI.defers.step hm hn.fr)|exact mc.put (hI.defers.step hm hn.toW.fr)
    . rw[hR,Sw (λk hk=>h2 _ (by omega))]
    . rw[Sv (λk hk=>h2 _ (by omega))]
      refine Vl hI.size (λu=>hc.dst i o u ho) (λhd=>(he i o (by omega) h1 ho hd).elim) (λhd=> ?_)
      exact Ak wx (hE t (λk o' hk hl dw=>ht k o' hk (by rw[h2 k (by omega)];exact hl) dw) (λk o' hk hl dw=>he k o' hk (by rw[h2 k (λe'=>by rw[e',h0]at hl;cases hl)];exact hl) dw))
    . by_cases e:k=i
      . subst e
        simp only[if_true]
        exact⟨o,t0,row,arr,ho,hg0,ho0,hA,hv,cw,⟨nY.fr.size,by rw[Qwa];omega,UL w _,λhb=>by have:=(hm.fu _ hb).1;omega,λr ak hr Mz e=>by have:=hm.lt hr Mz;omega⟩,λu hu=>zT hu (bI (hc.dst k o u ho hu) hI.size),KB⟩
      . simp only[if_neg e]
        rw[h2 k e]at hl
        exact(nP k hdk hl).cu hn (Ne.symm e) ho
    . have key: ∀k,d<=k->gk k=true->k≠i->B k<w.heap.size:=λk hk oG e=>by
        rw[h2 k e]at oG
        obtain⟨_,_,_,_,_,_,_,_,_,_,g7,_⟩:=nP k hk oG
        exact g7.lt
      by_cases e1:k=i<;>by_cases e2:j=i
      . rw[e1,e2]
      . simp only[if_pos e1,if_neg e2]at e
        have:=key j hj uH e2;omega
      . simp only[if_neg e1,if_pos e2]at e
        have:=key k hk oG e1;omega
      . simp only[if_neg e1,if_neg e2]at e
        exact oD k j hk hj (by rw[<-h2 k e1];exact oG) (by rw[<-h2 j e2];exact uH) e
  by_cases pJ:c<=i
  . by_cases e:i=d
    ·
      subst e
      have iR: ∀k o',c<=k->k<i->ops[k]? =some o'->dm k=true\/MK G ops (s ops.size).env k i=true:=λk o' oa rL dw=>by
        rcases(F4 mI rL dw ho).2 with⟨_,hq⟩|hb|hb|⟨⟨t4,_,g4⟩,_⟩
        . rw[hI.wr _ ho]at hq;cases hq
        . exact .inl (pX _ hb)
        . exact .inr hb
        . have:=hI.wr _ ho
          rw[Hq g4]at this;cases this
      have hnr: ∀k o',c<=k->k<i->ops[k]? =some o'->MK G ops (s ops.size).env k i=true->(s (k+1)).rows=(s k).rows:=λk o' oa rL dw hb=>by
        rcases Rd dw ho hb with⟨t,b,t',b',z,r,r',ii,off,mi,iP,g1,g2,g3,g4,g5,g6,g7,g8,g9⟩|⟨q,g1,g2,g3,g4,_⟩|⟨q,g1,g3,_⟩|⟨t,b,r,ii,off,_,_,_,_,g1,g2,g3,g5,g7,_⟩|⟨t,b,r,ii,off,_,_,_,g1,g2,g3,g5,g7,_⟩
        . exact((hc.mH k o' dw).ld t b r ii off g1 g3 (Es hc g5 g7 (aO _) (by omega))).2.1
        . exact((hc.mH k o' dw).pu q g1 (Zn6 hc g3 g4 (aO _) (by omega))).2.1
        . exact((hc.mH k o' dw).pu q g1 (Vj g3)).2.1
        . exact((hc.mH k o' dw).ld t b r ii off g1 g3 (Es hc g5 g7 (aO _) (by omega))).2.1
        . exact((hc.mH k o' dw).ld t b r ii off g1 g3 (Es hc g5 g7 (aO _) (by omega))).2.1
      have cw: ∀r,cx.R r=(s i).rows.getD r none:=λr=>by
        rw[hR,Z90 hc hI.quiet Ig (by omega) (λk hk=>by
          have dw:ops[c+k]? =some ops[c+k]:=aJ (by omega)
          rcases iR (c+k) _ (by omega) (by omega) dw with h|h
          . exact .inl h
          . exact .inr (hnr (c+k) _ (by omega) (by omega) dw h)),show c+(i-c)=i by omega]
      have tg: ∀t,(∀k o',k<i->dm k=false->ops[k]? =some o'->o'.dst≠some t)->(∀k o',i<=k->dm k=true->ops[k]? =some o'->o'.dst≠some t)->Rep cx w (look (s i).env t) (a.tmps.getD t undef):=λt ht he=>by
        have:=hE t (λk o' hk=>ht k o' (by omega)) he
        rwa [Zi3 hc hI.quiet Ig (by omega) (λk o' hk dw hd=>by
          cases hl:dm (c+k) with
          |true=>rfl
          |false=>exact(ht _ _ (by omega) hl dw hd).elim),show c+(i-c)=i by omega]at this
      refine zaz (M:=M) ho hm jj cw (λt ht=>tg t (λk o' hk hl dw hd=>by rw[seen k o' t hk dw hd ht]at hl;cases hl) (λk o' hk hl dw=>Dn k o' t hk hl dw ht (aO _))) (hc.op i o ho) λv w' c' hM hn jV hv=> ?_
      obtain⟨d',g1,g2,g3,g4⟩:=Na G ops _ (i+1) rfl (by omega)
      have cu: ∀k o' t b r ii off row,k<i->ops[k]? =some o'->dm k=false->o'.guard=none->o'.op= .load t (.tmp b)->lj ops k b=true->look (s ops.size).env b= .ptr r ii off->(s i).rows.getD r none=some row->(ks i=[]/\(s (i+1)).rows.getD r none=some row)\/(Rg ops (s ops.size).env k o'/\(s (i+1)).rows.getD r none=some (row.kill (ks i))):=by
        intro k o' t b r ii off row hk dw hl q1 q2 q3 q4 q5
        rcases(F4 mI hk dw ho).2 with⟨_,hq⟩|hb|hb|⟨⟨t4,_,g4⟩,_⟩
        rotate_right
        . have:=hI.wr _ ho
          rw[Hq g4]at this;cases this
        . rw[hI.wr _ ho]at hq;cases hq
        . rw[pX _ hb]at hl;cases hl
        . rcases Rd dw ho hb with⟨t1,b1,t',b',z,r1,r',Rk,Dp,mi,iP,p1,p2,p3,p4,p5,p6,p7,p8,p9⟩|⟨q,p1,p2,p3,_⟩|⟨q,p1,p3,_⟩|⟨t1,b1,r1,Rk,Dp,args,dc,x0,l0,p1,p2,p3,p4,p5,p6,p7,p8,p9⟩|⟨t1,b1,r1,Rk,Dp,args,dc,td,p1,p2,p3,p4,p5,p6,p7,p8,p9⟩
          . rw[q2]at p3;cases p3
            rw[q4]at p7;cases p7
            obtain⟨f1,f2⟩:=(hc.mH i o ho).st t' b' z r' mi iP p2 p4 (Es hc p6 p8 (by omega) (by omega))
            exact .inl ⟨f1,by rw[f2 r p9];exact q5⟩
          . rw[q2]at p3;simp [lY,pH,bq,q4]at p3
          . rw[q2]at p3;cases p3
          . obtain⟨f1,f2⟩:=(hc.mH i o ho).ap args dc x0 l0 p2 p6 p7 (by rw[Et hc p8 (Zb8 p9) (by omega) (by omega)];exact p9)
            exact .inl ⟨f1,f2 r row q5⟩
          . refine .inr ⟨⟨td,p7,p8,p9⟩,(hc.mH i o ho).ap2 args dc p2 p6 r row q5 ?_⟩
            have e1:=Es hc q3 q4 (show k<=i by omega) (by omega)
            have e2:=Es hc q3 q4 (show k<=i+1 by omega) (by omega)
            rw[hc.env i o b ho,if_neg (J9 q3 (by omega) ho),BV,e1]at e2
            cases hb:bw r (ks i) with
            |false=>rfl
            |true=>simp [D.gr,D.kill,D.ej,hb]at e2
      have HT: ∀k o' q,k<i->ops[k]? =some o'->dm k=false->lY (s ops.size).env o'.op=some q->ks i=[]\/Ka ops (s ops.size).env k o' q:=by
        intro k o' q hk dw hl hq
        rcases(F4 mI hk dw ho).2 with⟨_,FZ⟩|hb|hb|⟨⟨t4,_,g4⟩,_⟩
        rotate_right
        . have:=hI.wr _ ho
          rw[Hq g4]at this;cases this
        . rw[hI.wr _ ho]at FZ;cases FZ
        . rw[pX _ hb]at hl;cases hl
        . rcases Rd dw ho hb with⟨t1,b1,t',b',z,r1,r',Rk,Dp,mi,iP,p1,p2,p3,p4,p5,p6,p7,p8⟩|⟨q,p1,p2,p3,p4,p5⟩|⟨q',p1,p3,p4⟩|⟨t1,b1,r1,Rk,Dp,args,dc,x0,l0,p1,p2,p3,p4,p5,_⟩|⟨t1,b1,r1,Rk,Dp,args,dc,td,p1,p2,p3,p4,p5,_⟩
          rotate_right
          . rw[p3]at hq;simp [lY,pH,bq,p5]at hq
          rotate_right
          . rw[p3]at hq;simp [lY,pH,bq,p5]at hq
          . rw[p3]at hq;simp [lY,pH,bq,p7]at hq
          . rcases p5 with⟨t',b',z,r',mi,iP,p5,p6,p7⟩|⟨f,args,dc,p5,p6⟩
            . exact .inl ((hc.mH i o ho).st t' b' z r' mi iP p2 p5 (Es hc p6 p7 (by omega) (by omega))).1
            . exact .inl ((hc.mH i o ho).cl f args dc p2 p5 p6)
          . rw[Vj p3]at hq;cases hq
            exact .inr p4
      have F5: ∀k,c<=k->k<i->ks k=[]:=λk oa rL=>by
        have dw:ops[k]? =some ops[k]:=aJ (by omega)
        exact(Wd (hc.op k _ dw) (hI.quiet k _ oa rL dw)).1
      have Rl: ∀t,(∀k o,k<i+1->gk k=false->ops[k]? =some o->o.dst≠some t)->(∀k o,i+1<=k->gk k=true->ops[k]? =some o->o.dst≠some t)->Rep c' w' (look (s (i+1)).env t) ((a.put o.dst v).tmps.getD t undef):=by
        intro t ht he
        rw[hc.env i o t ho]
        refine Vl hI.size (λu=>hc.dst i o u ho) (λhd=>by rw[if_pos hd];exact hv) (λhd=> ?_)
        rw[if_neg hd,BV]
        refine Ak hn.bz (WB (tg t (λk o' hk hl dw=> ?_) (λk o' hk hl dw=> ?_)))
        . exact ht k o' (by omega) (by rw[h2 k (by omega)];exact hl) dw
        . have gl:k≠i:=λe'=>by rw[e',h0]at hl;cases hl
          exact he k o' (by omega) (by rw[h2 k gl];exact hl) dw
      refine hK _ w' (i+1) d' ⟨g1,g2,λk hk=> ?_,g3,g4,tS,?_,?_,hI.gh,hI.gw,by
        have:=Ri hc (c0:=c0) (w0:=w0) (w:=w') (dm:=gk) (a:=a.put o.dst v) (c:=i+1) (d:=d') g3 g2 ⟨c',B,hn.mem,jV,Rl,nY.step hM hI.gw hn,λk hk oG=>(nP k (by omega) (by rw[<-h2 k (by omega)];exact oG)).cu hn (by omega) ho,λk j hk hj oG uH e=>oD k j (by omega) (by omega) (by rw[<-h2 k (by omega)];exact oG) (by rw[<-h2 j (by omega)];exact uH) e⟩ (d'-(i+1)) (by omega)
        rwa [show i+1+(d'-(i+1))=d' by omega]at this⟩
      . by_cases e' : k=i
        . rw[e'];exact .inl h1
        . rw [h2 k e']
          cases hl:dm k with
          |true=>exact .inl rfl
          | false =>
            right
            by_cases Wg:k<c
            . rcases hI.pre k Wg with h|h
              . rw[hl]at h;cases h
              . rcases h with h|⟨o',q,q1,q2,q3,q4,q8⟩
                rotate_left
                . rcases q8 with q8|q8
                  rotate_left
                  . exact .inr ⟨o',q,q1,q2,q3,q4, .inr q8⟩
                  rcases HT k o' q (by omega) q1 hl q3 with f1|f1
                  rotate_left
                  . exact .inr ⟨o',q,q1,q2,q3,q4, .inr f1⟩
                  refine .inr ⟨o',q,q1,q2,q3,q4, .inl λk' oa rL=> ?_⟩
                  by_cases KC:k'<c
                  . exact q8 k' oa KC
                  . by_cases Ea:k'<i
                    . exact F5 k' (by omega) Ea
                    . rw[show k'=i by omega];exact f1
                obtain⟨o',t,b,r,ii,off,row,ak,q1,q2,q3,q4,q5,q6,q7,q8⟩:=h
                have rC:r<(s c).rows.length:=by
                  by_cases hh:r<(s c).rows.length
                  . exact hh
                  . simp only[aK,aM (show(s c).rows.length<=r by omega)]at q7;cases q7
                have iz:=Kw hc.toChain hI.quiet Ig (aO c) pJ (aO i) rC
                rcases cu k o' t b r ii off ak (by omega) q1 hl q2 q3 q4 q5 (by rw[iz];exact q7) with⟨f1,f2⟩|⟨f1,f2⟩
                . rcases q8 with⟨e8,q8⟩|q8
                  . refine .inl ⟨o',t,b,r,ii,off,row,ak,q1,q2,q3,q4,q5,q6,f2, .inl ⟨e8,λk' oa rL=> ?_⟩⟩
                    by_cases KC:k'<c
                    . exact q8 k' oa KC
                    . by_cases Ea:k'<i
                      . exact F5 k' (by omega) Ea
                      . rw[show k'=i by omega];exact f1
                  . exact .inl ⟨o',t,b,r,ii,off,row,ak,q1,q2,q3,q4,q5,q6,f2, .inr ⟨q8.1,q8.2.elim λL hL=>⟨L,hL.1,λkk hk=>(hL.2 kk hk).elim λj hj=>⟨j,hj.1,by omega,hj.2.2⟩⟩⟩⟩
                . refine .inl ⟨o',t,b,r,ii,off,row,_,q1,q2,q3,q4,q5,q6,f2, .inr ⟨f1,?_⟩⟩
                  rcases q8 with⟨e8,_⟩|⟨_,L,e8,hL⟩
                  . exact⟨[ks i],by rw[e8];rfl,λkk hk=>⟨i,by omega,by omega,List.mem_singleton.1 hk⟩⟩
                  . refine⟨L++[ks i],by rw[List.foldl_append,<-e8];rfl,λkk hk=> ?_⟩
                    rcases List.mem_append.1 hk with hk|hk
                    . obtain⟨j,j1,j2,j3⟩:=hL kk hk
                      exact⟨j,j1,by omega,j3⟩
                    . exact⟨i,by omega,by omega,List.mem_singleton.1 hk⟩
            . have dw:ops[k]? =some ops[k]:=aJ (by omega)
              rcases iR k _ (by omega) (by omega) dw with h|h
              . rw[hl]at h;cases h
              . have go: ∀t b r ii off,ops[k].guard=none->ops[k].op= .load t (.tmp b)->lj ops k b=true->look (s ops.size).env b= .ptr r ii off->Rh ops s ks k (i+1):=by
                  intro t b r ii off p1 p3 p5 p7
                  obtain⟨row,cb⟩:=((hc.mH k _ dw).ld t b r ii off p1 p3 (Es hc p5 p7 (aO _) (by omega))).2.2.1
                  have rC:r<(s k).rows.length:=by
                    by_cases hh:r<(s k).rows.length
                    . exact hh
                    . simp only[aK,aM (show(s k).rows.length<=r by omega)]at cb;cases cb
                  have iz:=Kw hc.toChain hI.quiet Ig (show c<=k by omega) (show k<=i by omega) (aO i) rC
                  rcases cu k _ t b r ii off row (by omega) dw hl p1 p3 p5 p7 (by rw[iz];exact cb) with⟨f1,f2⟩|⟨f1,f2⟩
                  rotate_left
                  . exact .inl ⟨_,t,b,r,ii,off,row,_,dw,p1,p3,p5,p7,cb,f2, .inr ⟨f1,[ks i],rfl,λkk hk=>⟨i,by omega,by omega,List.mem_singleton.1 hk⟩⟩⟩
                  refine .inl ⟨_,t,b,r,ii,off,row,row,dw,p1,p3,p5,p7,cb,f2, .inl ⟨rfl,λk' oa rL=> ?_⟩⟩
                  by_cases Ea:k'<i
                  . exact F5 k' (by omega) Ea
                  . rw[show k'=i by omega];exact f1
                rcases Rd dw ho h with⟨t,b,t',b',z,r,r',ii,off,mi,iP,p1,p2,p3,p4,p5,p6,p7,p8,p9⟩|⟨q,p1,p2,p3,p4,p5⟩|⟨q,p1,p3,p4⟩|⟨t,b,r,ii,off,_,_,_,_,p1,p2,p3,p5,p7,_⟩|⟨t,b,r,ii,off,_,_,_,p1,p2,p3,p5,p7,_⟩
                rotate_right
                . exact go t b r ii off p1 p3 p5 p7
                rotate_left 2
                rotate_left
                . exact go t b r ii off p1 p3 p5 p7
                rotate_right
                . exact .inr ⟨_,q,dw,p1,Vj p3,λa ha=>(p4.1 a ha).1, .inr p4⟩
                rotate_left
                . rcases HT k _ q (by omega) dw hl p3 with f1|f1
                  rotate_left
                  . exact .inr ⟨_,q,dw,p1,p3,p4, .inr f1⟩
                  refine .inr ⟨_,q,dw,p1,p3,p4, .inl λk' oa rL=> ?_⟩
                  by_cases Ea:k'<i
                  . exact F5 k' (by omega) Ea
                  . rw[show k'=i by omega];exact f1
                exact go t b r ii off p1 p3 p5 p7
      . cases hd:o.dst<;>simp [Act.put]<;>exact hI.size
      . first|exact mc.put (hI.defers.step hm hn.fr)|exact mc.put (hI.defers.step hm hn.toW.fr)
    ·
      have Ic:i<d:=by omega
      have hq:=hI.quiet i o pJ Ic ho
      have Nc:=Wc hq
      have Nd: ∀t∈o.looksAt ops,Rep cx w (look (s i).env t) (a.tmps.getD t undef):=λt ht=>by
        have Ie : ∀n,c+n<=d->jd ops s val dm c n t=if c+n<=i then look (s (c+n)).env t else look (s i).env t:=by
          intro n
          induction n with
          |zero=>intro _;simp only[jd,bG];rw[if_pos pJ]
          | succ n ih=>
            intro hn
            obtain⟨ok,dw⟩: ∃ok,ops[c+n]? =some ok:=⟨_,aJ (show c+n<ops.size by omega)⟩
            have ih:=ih (by omega)
            simp only[jd,dw,aL]
            by_cases hk:c+n<i
            . have hA:c+(n+1)<=i:=by omega
              have Sx:c+n<=i:=by omega
              rw[if_pos hA,show c+(n+1)=c+n+1 by omega,hc.toChain.EF dw (hI.quiet _ _ (by omega) (by omega) dw) t]
              rw[if_pos Sx]at ih
              by_cases hd:ok.dst=some t
              . rw[if_pos ⟨seen _ _ t hk dw hd ht,hd⟩,if_pos hd]
              . rw[if_neg (λg=>hd g.2),if_neg hd,ih]
            . have Ih: ¬(dm (c+n)=true/\ok.dst=some t):=by
                rintro⟨g1,g2⟩
                by_cases e':c+n=i
                . rw[e',h0]at g1;cases g1
                . have nZ:i<c+n:=by omega
                  rcases(F4 mI nZ ho dw).1 with tT|hb
                  . exact(Gb tT).2.2 g2 ht
                  . have:=nX _ _ g1 hb
                    rw[h0]at this;cases this
              have hA: ¬c+(n+1)<=i:=by omega
              rw[if_neg Ih,ih,if_neg hA]
              split
              . rw[show c+n=i by omega]
              . rfl
        have:=hE t (λk o' hk hl dw hd=>by rw[seen k o' t (by omega) dw hd ht]at hl;cases hl) (λk o' hk hl dw=>Dn k o' t hk hl dw ht hid)
        rw[Ie (d-c) (by omega),if_neg (by omega)]at this
        exact this
      have hlen: ∀k l,c<=k->k<=l->l<=d->(s k).rows.length<=(s l).rows.length:=λk l h1 h2 h3=>Kv hc.toChain hI.quiet hI.dn h1 h2 h3
      have iX: ∀k l,c<=k->k<=l->l<=d-> ∀r,r<(s k).rows.length->(s l).rows.getD r none=(s k).rows.getD r none:=λk l h1 h2 h3 r hr=>Kw hc.toChain hI.quiet hI.dn h1 h2 h3 hr
      have BK: ∀n,c+n<=d-> ∀r,r<(s i).rows.length-> ∀row,kE s dm c n r=some row->(s i).rows.getD r none=some row:=by
        intro n
        induction n with
        | zero=>
          intro _ r hr row h
          simp only[kE]at h
          by_cases Wh:r<(s c).rows.length
          . rw[iX c i (aO _) pJ (by omega) r Wh];exact h
          . simp only[aK,aM (show(s c).rows.length<=r by omega)]at h;cases h
        | succ n ih=>
          intro hn r hr row h
          simp only[kE]at h
          split at h
          . rename_i g
            obtain⟨g1,g2,g3⟩:=g
            have Wi:c+n<i:=by
              by_cases mU:c+n<i
              . exact mU
              . by_cases e':c+n=i
                . rw[e',h0]at g1;cases g1
                . have:=hlen i (c+n) pJ (by omega) (by omega);omega
            rw[iX (c+n+1) i (by omega) (by omega) (by omega) r g3];exact h
          . exact ih (by omega) r hr row h
      have BL: ∀n,c+n<=d-> ∀r,(s i).rows.length<=r->r<(s (i+1)).rows.length->kE s dm c n r=none:=by
        intro n
        induction n with
        | zero=>
          intro _ r h1 h2
          have:=hlen c i (aO _) pJ (by omega)
          simp only[kE,aK,aM (show(s c).rows.length<=r by omega),Option.getD_none]
        | succ n ih=>
          intro hn r h1 h2
          simp only[kE]
          rw[if_neg]
          . exact ih (by omega) r h1 h2
          . rintro⟨g1,g2,g3⟩
            by_cases e':c+n=i
            . rw[e',h0]at g1;cases g1
            . by_cases mU:c+n<i
              . have:=hlen (c+n+1) i (by omega) (by omega) (by omega);omega
              . have:=hlen (i+1) (c+n) (by omega) (by omega) (by omega);omega
      have o7:mJ cx (s i).rows:=λr row ak g1 g2=>by
        have hr:r<(s i).rows.length:=by
          by_cases h:r<(s i).rows.length
          . exact h
          . simp only[aK,aM (show(s i).rows.length<=r by omega)]at g2;cases g2
        rw[hR]at g1
        have:=BK (d-c) (by omega) r hr row g1
        rw[this]at g2;exact Option.some.inj g2
      have fin: ∀v w' c',Ku cx w (s i).rows (s (i+1)).rows c' w'->Rep c' w' (val i) v->K (a.put o.dst v) w':=by
        intro v w' c' hn hv
        refine hK _ w' c d ⟨hI.cd,hI.dn,λk hk=>by rw[h2 k (by omega)];exact hI.pre k hk,hI.quiet,hI.wr,tS,?_,?_,hI.gh,hI.gw,c',B,hn.mem,λr=> ?_,λt ht he=> ?_,nY.step (ks:=[]) (λk hk=>by simp [bw]at hk) hI.gw hn.toW.toK,λk hk oG=>(nP k hk (by rw[<-h2 k (by omega)];exact oG)).cu hn.toW.toK (by omega) ho,λk j hk hj oG uH e=>oD k j hk hj (by rw[<-h2 k (by omega)];exact oG) (by rw[<-h2 j (by omega)];exact uH) e⟩
        . cases hd:o.dst<;>simp [Act.put]<;>exact hI.size
        . first|exact mc.put (hI.defers.step hm hn.fr)|exact mc.put (hI.defers.step hm hn.toW.fr)
        . rw[hn.rows,hR,Wf pJ h0 h1 h2 (d:=d) (λk oa rL=>hlen (i+1) k (by omega) (by omega) (by omega)) (by omega) (by omega)]
        . have hl: ∀k o',i<k->dm k=true->ops[k]? =some o'->o'.dst=some t->o.dst=some t->False:=by
            intro k o' nZ hk dw Wj Wk
            rcases(F4 mI nZ ho dw).1 with tT|hb
            . exact(Gb tT).1 Wk Wj
            . have:=nX _ _ hk hb
              rw[h0]at this;cases this
          rw[We ho pJ h0 h1 h2 hl (by omega)]
          have hold:=Ak hn.bz (hE t (λk o' hk hl dw=>ht k o' hk (by rw[h2 k (by omega)];exact hl) dw) (λk o' hk hl dw=>he k o' hk (by rw[h2 k (by omega)];exact hl) dw))
          refine Vl hI.size (λu=>hc.dst i o u ho) (λhd=>by rw[if_pos hd];exact hv) (λhd=>by rw[if_neg hd];exact hold)
      have skip:val i= .dt []->(s (i+1)).rows=(s i).rows->K (a.put o.dst undef) w:=λe1 e2=>
        fin undef w cx ⟨hm,jk.refl _ _,Fr.refl _ _,λb hb=> .inl hb,λr=>by rw[e2,if_neg (by omega)],λ_ _=>⟨rfl,Iff.rfl⟩,λr g1 g2=>by rw[e2]at g2;omega⟩ (by rw[e1];exact Sy _ _)
      have run:pI P G M o (bq (s i).env) (s i).rows (ks i) (val i) (s (i+1)).rows->o.nm P a w K Q:=λhX=>by
        unfold pI at hX
        rw[Nc]at hX
        refine hX.2.2 cx w a hm jj o7 (λr g1 g2=>by rw[hR];exact BL (d-c) (by omega) r g1 g2) (λx hx=> ?_) K Q fin
        cases x with
        | tmp t=>
          refine Nd t ?_
          unfold Oper.looksAt
          exact gP _ (List.mem_filterMap.2 ⟨.tmp t,by simpa using hx,rfl⟩)
        | const v=>
          simp only[bq,Act.eval]
          cases hv:Gc v with
          |none=>trivial
          |some d=>exact Nf hv cx w
        |global g=>trivial
        |func f=>exact Kx f
      have hG:=hc.op i o ho
      unfold wpOp
      simp only[ho]
      unfold nA at hG
      cases hg:o.guard with
      | none=>
        simp only[hg]at hG
        have hw:Region.wanted o (yielded ops a.tmps)=true:=by simp [Region.wanted,hg]
        rw[if_pos hw]
        exact run hG
      | some jw=>
        obtain⟨j,want⟩:=jw
        simp only[hg]at hG
        obtain⟨g,g2,hG⟩:=hG
        have hr:=Nd g (by
          unfold Oper.looksAt
          refine gO _ ?_
          simp only[hg,g2];simp)
        rcases hG with⟨b,g3,g4⟩|⟨g3,_,e1,e2⟩
        rotate_left
        . rw[g3]at hr
          rw[if_neg (by rw[Sz (o:=o) hg g2 hr];simp)]
          exact skip e1 e2
        rw[g3]at hr
        have hw:=SA (o:=o) hg g2 hr
        by_cases e':b=want
        . rw[if_pos e']at g4
          rw[if_pos (by rw[hw];simpa using e')]
          exact run g4
        . rw[if_neg e']at g4
          rw[if_neg (by rw[hw];simpa using e')]
          exact skip g4.2.1 g4.2.2
  ·
    have hic:i<c:=by omega
    rcases hI.pre i hic with h|h
    . rw[h0]at h;cases h
    have Rm: ∀b,lj ops i b=true->(∀k,i<k->k<c->ks k=[])->ks i=[]->look (s c).env b=look (s i).env b:=by
      intro b hb q8 q9
      have: ∀k,i<=k->k<=c->look (s k).env b=look (s i).env b:=by
        intro k
        induction k with
        |zero=>intro h1 _;rw[show i=0 by omega]
        | succ k ih=>
          intro h1 h2
          by_cases e':i=k+1
          . rw[e']
          . have dw:ops[k]? =some ops[k]:=aJ (by omega)
            rw[hc.env k _ b dw,if_neg (J9 hb (by omega) dw)]
            by_cases e2:k=i
            . rw[e2,q9,o4]
            . rw[q8 k (by omega) (by omega),o4];exact ih (by omega) (by omega)
      exact this c (by omega) (aO _)
    have oB: ∀b,lj ops i b=true->b∈o.looksAt ops->Rep cx w (look (s c).env b) (a.tmps.getD b undef):=λb hnb NJ=>by
      have:=hE b (λk o' hk hl dw hd=>by
        by_cases Wi:k<i
        . rw[seen k o' b Wi dw hd NJ]at hl;cases hl
        . exact J9 hnb (by omega) dw hd) (λk o' hk hl dw=>Dn k o' b hk hl dw NJ hid)
      rwa [Qx hc (λk o' hk dw hd=>(J9 hnb (by omega) dw hd).elim)]at this
    obtain ⟨q2,q8,hN,Di⟩:o.guard=none/\((∀k,i<k->k<c->ks k=[])\/ ∀t,o.dst=some t->lj ops (i+1) t=true/\tj (look (s ops.size).env t)=true)/\pL P o (bq (s c).env) (s c).rows (val i) (s c).rows/\ ∀x∈o.op.operands,Rep cx w (bq (s c).env x) (a.eval x):=by
      rcases h with⟨o',t0,b,r,ii,off,row,ak,q1,q2,q3,q4,q5,q6,q7,q8⟩|⟨o',q,q1,q2,q3,q4,q8⟩
      . rw [ho]at q1;cases q1
        have hpc:look (s c).env b= .ptr r ii off:=Es hc q4 q5 (by omega) (by omega)
        have hpi:look (s i).env b= .ptr r ii off:=Es hc q4 q5 (by omega) (by omega)
        have tn:=(hc.mH i o ho).ld t0 b r ii off q2 q3 hpi
        have eu:bq (s c).env (.tmp b)= .ptr r ii off:=by simp [bq,hpc]
        have q9:((∀k,i<k->k<c->ks k=[])\/ ∀t,o.dst=some t->lj ops (i+1) t=true/\tj (look (s ops.size).env t)=true)/\pL P o (bq (s c).env) (s c).rows (val i) (s c).rows:=by
          rcases q8 with⟨e8,q8⟩|⟨⟨td,d1,d2,d3⟩,L,e8,hL⟩
          . subst e8
            exact⟨.inl q8,tn.2.2.2.1 (bq (s c).env) (s c).rows eu (by rw[q6,q7])⟩
          . refine⟨.inr λt ht=>by rw[d1]at ht;cases ht;exact⟨d2,Rc d3⟩,tn.2.2.2.2 (bq (s c).env) (s c).rows row L ?_ (λkk hk=> ?_) eu q6 (by rw[q7,e8])⟩
            rotate_left
            . obtain⟨j,j1,j2,rfl⟩:=hL kk hk
              have h5:=Et hc d2 (Rc d3) (aO _) (show i+1<=ops.size by omega)
              have h6:=hc.env i o td ho
              rw[if_pos d1,h5]at h6
              have g1:=Et hc d2 (Rc d3) (show i+1<=j by omega) (show j<=ops.size by omega)
              have g2:=Et hc d2 (Rc d3) (show i+1<=j+1 by omega) (show j+1<=ops.size by omega)
              have dw:ops[j]? =some ops[j]:=aJ (by omega)
              rw[hc.env j _ td dw,if_neg (J9 d2 (by omega) dw),BV,g1,Zqf d3]at g2
              rw[<-h6];exact g2
            have h5:=Et hc d2 (Rc d3) (aO _) (show i+1<=ops.size by omega)
            have h6:=hc.env i o td ho
            rw[if_pos d1]at h6
            rw[<-h6,h5];exact d3
        refine⟨q2,q9.1,q9.2,λx hx=> ?_⟩
        have jE:x= .tmp b:=by simpa [q3,Op.operands] using hx
        rw[jE]
        refine oB b q4 ?_
        unfold Oper.looksAt
        exact gP _ (List.mem_filterMap.2 ⟨.tmp b,by rw[q3];simp [Op.operands],rfl⟩)
      . rw [ho]at q1;cases q1
        have tn:=(hc.mH i o ho).pu q q2 (Zn6 hc q3 q4 (aO _) (by omega))
        refine⟨q2,q8.imp id λg t ht=>⟨(g.2 t ht).1,Qln (g.2 t ht).2⟩,tn.2.2 (bq (s c).env) (s c).rows (λx hx=> ?_),λy hy=> ?_⟩
        . cases x with
          | tmp b=>
            rcases q8 with q8|q8
            . exact Rm b (q4 b (Z5j q3 hx)) q8 tn.1
            . obtain⟨g1,g2⟩:=q8.1 b (Z5j q3 hx)
              show look (s c).env b=look (s i).env b
              rw[Et hc g1 (Qln g2) (by omega) (by omega),Et hc g1 (Qln g2) (aO _) (by omega)]
          |_=>rfl
        . cases y with
          | tmp b=>
            refine oB b (q4 b (Z5j q3 hy)) ?_
            unfold Oper.looksAt
            exact gP _ (List.mem_filterMap.2 ⟨.tmp b,by simpa using hy,rfl⟩)
          | const v=>
            simp only[bq,Act.eval]
            cases hv:Gc v with
            |none=>trivial
            |some d=>exact Nf hv cx w
          |global g=>trivial
          |func f=>exact Kx f
    have o7:mJ cx (s c).rows:=λr' EW jy g1 g2=>by
      have hr:r'<(s c).rows.length:=by
        by_cases h:r'<(s c).rows.length
        . exact h
        . simp only[aK,aM (show(s c).rows.length<=r' by omega)]at g2;cases g2
      rw[hR,Zez hc hI.quiet Ig hr (by omega),g2]at g1
      exact(Option.some.inj g1).symm
    have fin: ∀v w' c',Ku cx w (s c).rows (s c).rows c' w'->Rep c' w' (val i) v->K (a.put o.dst v) w':=by
      intro v w' c' hn hv
      refine hK _ w' c d ⟨Wo,Ig,λk hk=> ?_,hI.quiet,hI.wr,tS,?_,?_,hI.gh,hI.gw,c',B,hn.mem,λr'=> ?_,λt ht he=> ?_,nY.step (ks:=[]) (λk hk=>by simp [bw]at hk) hI.gw hn.toW.toK,λk hk oG=>(nP k hk (by rw[<-h2 k (by omega)];exact oG)).cu hn.toW.toK (by omega) ho,λk j hk hj oG uH e=>oD k j hk hj (by rw[<-h2 k (by omega)];exact oG) (by rw[<-h2 j (by omega)];exact uH) e⟩
      . by_cases e':k=i
        . rw[e'];exact .inl h1
        . rw[h2 k e'];exact hI.pre k hk
      . cases hd:o.dst<;>simp [Act.put]<;>exact hI.size
      . first|exact mc.put (hI.defers.step hm hn.fr)|exact mc.put (hI.defers.step hm hn.toW.fr)
      . rw[hn.rows,hR,if_neg (by omega),Sw (λk hk=>h2 _ (by omega))]
      . rw [Sv (λk hk=>h2 _ (by omega))]
        refine Vl hI.size (λu=>hc.dst i o u ho) (λhd=> ?_) (λhd=> ?_)
        ·
          have oL: ∀k o',i<k->ops[k]? =some o'->o'.dst=some t->dm k=false:=λk o' hk dw th=>by
            cases hl:dm k with
            |false=>rfl
            | true=>
              rcases(F4 mI hk ho dw).1 with tT|hb
              . exact((Gb tT).1 hd th).elim
              . have:=nX _ _ hl hb
                rw[h0]at this;cases this
          have Jah: ∀k o',i<k->k<c->ops[k]? =some o'->o'.dst≠some t:=λk o' oa rL dw th=>
            ht k o' rL (by rw[h2 k (by omega)];exact oL k o' oa dw th) dw th
          rw[Qx hc (λk o' hk dw th=>oL _ o' (by omega) dw th)]
          have: ∀k,i<k->k<=c->look (s k).env t=val i:=by
            rcases q8 with q8|q8
            rotate_left
            . intro k oa rL
              obtain⟨g1,g2⟩:=q8 t hd
              have:=hc.env i o t ho
              rw[if_pos hd]at this
              rw[<-this,Et hc g1 g2 (by omega) (by omega),Et hc g1 g2 (aO _) (by omega)]
            intro k
            induction k with
            |zero=>intro h;omega
            | succ k ih=>
              intro oa rL
              have dw:ops[k]? =some ops[k]:=aJ (by omega)
              by_cases e':k=i
              . subst e'
                rw[ho]at dw
                rw[hc.env k o t ho,if_pos hd]
              . rw[hc.env k _ t dw,if_neg (Jah k _ (by omega) (by omega) dw),q8 k (by omega) (by omega),o4]
                exact ih (by omega) (by omega)
          rw[this c hic (aO _)]
          exact hv
        . refine Ak hn.bz (hE t (λk o' hk hl dw th=> ?_) (λk o' hk hl dw=>he k o' hk (by rw[h2 k (by omega)];exact hl) dw))
          by_cases e':k=i
          . subst e'
            rw[ho]at dw;cases dw
            exact hd th
          . exact ht k o' hk (by rw[h2 k e'];exact hl) dw th
    unfold wpOp
    simp only[ho]
    have hw:Region.wanted o (yielded ops a.tmps)=true:=by simp [Region.wanted,q2]
    rw[if_pos hw]
    exact hN.2 cx w a hm jj o7 (λr' g1 g2=>by omega) Di K Q fin
theorem Zi8{c0:Ctx}{w0:World}{dm:Nat->Bool}{a:Act}{w:World}{c d:Nat}(hI:Inv2 P G N M ops s ks val c0 w0 dm a w c d)(iR:∀i,i<ops.size->dm i=true):∃cx,fw N M c0 w0 cx w (s ops.size) a:=by
 obtain⟨cx,B,hm,hR,hE,nY,nP,oD⟩:=hI.ctx
 have hd:d=ops.size:=by
  by_cases h:d<ops.size
  ·obtain⟨o',t,_,_,g1,_,g3,_⟩:=nP d (aO _) (iR d h)
   have:=hI.wr _ g1
   unfold lu at this
   rw[g3]at this;cases this
  ·have:=hI.dn;omega
 subst hd
 have Wo:=hI.cd
 have hl:∀k,k<ops.size-c->dm (c+k)=true:=λk hk=>iR _ (by omega)
 refine⟨cx,hm,λr=>?_,λt=>?_,hI.size,hI.defers,hI.gh,hI.gw,nY⟩
 ·rw[hR,Ss hc.toChain hI.quiet hI.dn (by omega) hl,show c+(ops.size-c)=ops.size by omega]
 ·have:=hE t (λk o hk h0 dw=>by rw[iR k (Array.getElem?_eq_some_iff.1 dw).1]at h0;cases h0) (λk o hk _ dw=>by have:=(Array.getElem?_eq_some_iff.1 dw).1;omega)
  rw[Sr hc.toChain hI.quiet hI.dn (by omega) hl]at this
  rwa [show c+(ops.size-c)=ops.size by omega]at this
theorem yy{c0:Ctx}{w0:World}{Q:Exit->Act->World->Prop}(hQ:∀c w a,fw N M c0 w0 c w (s ops.size) a->Q .normal a w):∀(fuel:Nat) (listed:Array Bool) (a:Act) (w:World) (c d:Nat),listed.size=ops.size->mV (λi=>listed.getD i false) ops.size<=fuel->
 Inv2 P G N M ops s ks val c0 w0 (λi=>listed.getD i false) a w c d->Ii P .any ops Q fuel listed a w:=by
 intro fuel
 have Bm:∀(listed:Array Bool) (i:Nat),listed.size=ops.size->(i∈Region.ready .any ops listed↔ ∃o,ops[i]?=some o/\listed.getD i false=false/\∀e∈o.after,Region.binds .any e=true->listed.getD e.on false=true):=by
  intro listed i fx
  unfold Region.ready
  rw[gX,gY]
  constructor
  ·rintro⟨h1,h2⟩
   have ho:ops[i]?=some ops[i]:=aJ h1
   simp only[ho,aR,aG,aE,aS]at h2
   refine⟨_,ho,?_,λe he hb=>?_⟩
   ·have hl:i<listed.size:=by omega
    have:=h2.1
    simpa[aP,hl]using this
   ·have:=Array.all_eq_true'.1 h2.2 e he
    simpa[hb]using this
  ·rintro⟨o,ho,h1,h2⟩
   have cg:=(Array.getElem?_eq_some_iff.1 ho).1
   refine⟨cg,?_⟩
   simp only[ho,aR,aG,aE,aS]
   have hl:i<listed.size:=by omega
   refine⟨by simpa[aP,hl]using h1,Array.all_eq_true'.2 λe he=>?_⟩
   cases hb:Region.binds .any e with
   |false=>rfl
   |true=>simpa[hb]using h2 e he hb
 have ka:∀(listed:Array Bool),listed.size=ops.size->Region.ready .any ops listed=[]->∀i,i<ops.size->listed.getD i false=true:=by
  intro listed fx he i
  induction i using Nat.strongRecOn with
  |_ i ih=>
   intro hi
   cases hl:listed.getD i false with
   |true=>rfl
   |false=>
    exfalso
    have ho:ops[i]?=some ops[i]:=aJ hi
    have:i∈Region.ready .any ops listed:=(Bm listed i fx).2 ⟨_,ho,hl,λe Ai hb=>by
     have:=Zhb mI ho e Ai hb
     exact ih e.on this (by omega)⟩
    rw[he]at this;cases this
 induction fuel with
 |zero=>
  intro listed a w c d fx BM hI
  have iR:=Wm (dm:=λi=>listed.getD i false) (Nat.le_zero.1 BM)
  refine⟨?_,?_⟩
  ·rw[List.eq_nil_iff_forall_not_mem]
   intro i hi
   obtain⟨o,ho,h1,_⟩:=(Bm listed i fx).1 hi
   have:=iR i (Array.getElem?_eq_some_iff.1 ho).1
   rw[h1]at this;cases this
  ·obtain⟨cx,hs⟩:=Zi8 hc mI hI iR
   exact hQ cx w a hs
 |succ fuel ih=>
  intro listed a w c d fx BM hI
  refine⟨λhe=>?_,λi hi=>?_⟩
  ·obtain⟨cx,hs⟩:=Zi8 hc mI hI (ka listed fx he)
   exact hQ cx w a hs
  ·obtain⟨o,ho,h1,h2⟩:=(Bm listed i fx).1 hi
   have cg:=(Array.getElem?_eq_some_iff.1 ho).1
   have sj:(listed.setIfInBounds i true).getD i false=true:=by
    have hl:i<listed.size:=by omega
    simp[aP,hl]
   have sq:∀k,k≠i->(listed.setIfInBounds i true).getD k false=listed.getD k false:=λk hk=>by
    rw[aF,aQ (Ne.symm hk),<-aF]
   refine zy hc mI (gk:=λk=>(listed.setIfInBounds i true).getD k false) hI ho h1 sj sq h2 λa' w' c' d' Wp=>?_
   refine ih _ a' w' c' d' (by simpa using fx) ?_ Wp
   have:=Wn (dm:=λk=>listed.getD k false) (gk:=λk=>(listed.setIfInBounds i true).getD k false) h1 sj sq cg
   omega
end
theorem Bm{ops:Array Oper}{listed:Array Bool}{i:Nat}(fx:listed.size=ops.size):i∈Region.ready .any ops listed↔ ∃o,ops[i]?=some o/\listed.getD i false=false/\∀e∈o.after,Region.binds .any e=true->listed.getD e.on false=true:=by
 unfold Region.ready
 rw[gX,gY]
 constructor
 ·rintro⟨h1,h2⟩
  have ho:ops[i]?=some ops[i]:=aJ h1
  simp only[ho,aR,aG,aE,aS]at h2
  refine⟨_,ho,?_,λe he hb=>?_⟩
  ·have hl:i<listed.size:=by omega
   have:=h2.1
   simpa[aP,hl]using this
  ·have:=Array.all_eq_true'.1 h2.2 e he
   simpa[hb]using this
 ·rintro⟨o,ho,h1,h2⟩
  have cg:=(Array.getElem?_eq_some_iff.1 ho).1
  refine⟨cg,?_⟩
  simp only[ho,aR,aG,aE,aS]
  have hl:i<listed.size:=by omega
  refine⟨by simpa[aP,hl]using h1,Array.all_eq_true'.2 λe he=>?_⟩
  cases hb:Region.binds .any e with
  |false=>rfl
  |true=>simpa[hb]using h2 e he hb
theorem qz{r:Nat}:∀{l:List Nat} {k:Nat},r∉l->pos r l k=k+l.length
 |[],k,_=>rfl
 |x::l,k,h=>by
  simp only[List.mem_cons,not_or]at h
  simp only[pos]
  cases hb:Nat.beq x r with
  |true=>exact(h.1 (bE hb).symm).elim
  |false=>show pos r l (k+1)=_;rw[qz h.2];simp;omega
section
variable {p:List Nat} {ops:Array Oper} (hp:Vm p ops.size=true)
include hp
theorem Vn:p.length=ops.size/\(∀i,i<ops.size->i∈p)/\(∀i∈p,i<ops.size)/\p.Nodup:=by
 unfold Vm at hp
 simp only[aE]at hp
 obtain⟨h1,h2,h3,h4⟩:=hp
 exact⟨bE h1,λi hi=>oj.1 (List.all_eq_true.1 h2 i (List.mem_range.2 hi)),λi hi=>lE (List.all_eq_true.1 h3 i hi),Mt.1 h4⟩
theorem HU{i:Nat}(hi:i<ops.size):pos i p 0<ops.size/\p[pos i p 0]?=some i:=by
 obtain⟨h1,h2,h3,h4⟩:=Vn hp
 have:=Bw (h2 i hi)
 exact⟨by have:=(List.getElem?_eq_some_iff.1 this).1;omega,this⟩
theorem Zf8{i:Nat}(h:pos i p 0<ops.size):i<ops.size:=by
 obtain⟨h1,h2,h3,h4⟩:=Vn hp
 by_cases hm:i∈p
 ·exact h3 i hm
 ·rw[qz hm]at h;omega
theorem Qpj:(nw p ops).size=ops.size:=by
 obtain⟨h1,_⟩:=Vn hp
 simp[nw,h1]
theorem Vo{k i:Nat}{o:Oper}(hk:p[k]?=some i)(ho:ops[i]?=some o):(nw p ops)[k]?=some (MM p o):=by
 have:ops.getD i default=o:=by
  have cg:=(Array.getElem?_eq_some_iff.1 ho).1
  have:=(Array.getElem?_eq_some_iff.1 ho).2
  simp[aP,cg,this]
 simp[nw,hk,ho]
theorem Zic(tmps:Array Value)(j:Nat):yielded (nw p ops) tmps (pos j p 0)=yielded ops tmps j:=by
 by_cases hj:j<ops.size
 ·have ho:ops[j]?=some ops[j]:=aJ hj
  have h1:=Vo hp (HU hp hj).2 ho
  simp only[yielded,h1,ho,aL]
  rfl
 ·have h1:ops[j]?=none:=cL (by omega)
  have h2:(nw p ops)[pos j p 0]?=none:=by
   refine cL ?_
   rw[Qpj hp]
   by_cases h:pos j p 0<ops.size
   ·exact(hj (Zf8 hp h)).elim
   ·omega
  simp only[yielded,h1,h2,Option.bind_none]
theorem Zl4{o:Oper}(tmps:Array Value):Region.wanted (MM p o) (yielded (nw p ops) tmps)=Region.wanted o (yielded ops tmps):=by
 unfold Region.wanted MM
 cases hg:o.guard with
 |none=>rfl
 |some jw=>obtain⟨j,w⟩:=jw;simp only[Zic hp]
theorem xz{P:Program}{Q:Exit->Act->World->Prop}{i:Nat}{K K':Act->World->Prop}{a:Act}{w:World}(hi:i<ops.size)(hK:∀a w,K' a w->K a w)(h:wpOp P (nw p ops) Q (pos i p 0) K' a w):wpOp P ops Q i K a w:=by
 have ho:ops[i]?=some ops[i]:=aJ hi
 have h1:=Vo hp (HU hp hi).2 ho
 unfold wpOp at h⊢
 simp only[ho]
 simp only[h1,Zl4 hp]at h
 split at h
 ·rename_i hw
  rw[if_pos hw]
  exact WA (Q:=Q) hK h
 ·rename_i hw
  rw[if_neg hw]
  exact hK _ _ h
theorem Zp3{P:Program}{Q:Exit->Act->World->Prop}:∀(fuel:Nat) (listed fm:Array Bool) (a:Act) (w:World),listed.size=ops.size->fm.size=ops.size->(∀i,i<ops.size->fm.getD (pos i p 0) false=listed.getD i false)->
 Ii P .any (nw p ops) Q fuel fm a w->Ii P .any ops Q fuel listed a w:=by
 have fx:=Qpj hp
 obtain⟨f1,f2,f3,f4⟩:=Vn hp
 have up:∀(listed fm:Array Bool) (i:Nat),listed.size=ops.size->fm.size=ops.size->(∀i,i<ops.size->fm.getD (pos i p 0) false=listed.getD i false)->i∈Region.ready .any ops listed->i<ops.size/\pos i p 0∈Region.ready .any (nw p ops) fm:=by
  intro listed fm i h1 h2 h3 hi
  obtain⟨o,ho,g1,g2⟩:=(Bm h1).1 hi
  have cg:=(Array.getElem?_eq_some_iff.1 ho).1
  refine⟨cg,(Bm (by rw[h2,fx])).2 ⟨_,Vo hp (HU hp cg).2 ho,by rw[h3 i cg];exact g1,λe he hb=>?_⟩⟩
  simp only[MM,gZ]at he
  obtain⟨e',Ai,rfl⟩:=he
  have:=g2 e' Ai hb
  have KB:e'.on<ops.size:=by
   by_cases h:e'.on<ops.size
   ·exact h
   ·rw[aP,dif_neg (by omega)]at this;cases this
  show fm.getD (pos e'.on p 0) false=true
  rw[h3 _ KB];exact this
 have down:∀(listed fm:Array Bool) (k:Nat),listed.size=ops.size->fm.size=ops.size->(∀i,i<ops.size->fm.getD (pos i p 0) false=listed.getD i false)->k∈Region.ready .any (nw p ops) fm->∃i,i∈Region.ready .any ops listed:=by
  intro listed fm k h1 h2 h3 hk
  obtain⟨o',je,g1,g2⟩:=(Bm (by rw[h2,fx])).1 hk
  have cg:=(Array.getElem?_eq_some_iff.1 je).1
  rw[fx]at cg
  have Bx:p[k]?=some p[k]:=List.getElem?_eq_getElem (by omega)
  have hi:=f3 _ (fW Bx)
  have ho:ops[p[k]]?=some ops[p[k]]:=aJ hi
  have Rn:pos p[k] p 0=k:=by
   have:=(HU hp hi).2
   exact(List.getElem?_inj (by have:=(HU hp hi).1;omega) f4).1 (this.trans Bx.symm)
  have h4:=Vo hp Bx ho
  rw[je]at h4;cases h4
  refine⟨p[k],(Bm h1).2 ⟨_,ho,by rw[<-h3 _ hi,Rn];exact g1,λe he hb=>?_⟩⟩
  have:=g2 (Dq p e) (by simp only[MM,gZ];exact⟨e,he,rfl⟩) hb
  have this:fm.getD (pos e.on p 0) false=true:=this
  have KB:pos e.on p 0<ops.size:=by
   by_cases h:pos e.on p 0<ops.size
   ·exact h
   ·rw[aP,dif_neg (by omega)]at this;cases this
  rw[<-h3 _ (Zf8 hp KB)];exact this
 intro fuel
 induction fuel with
 |zero=>
  intro listed fm a w h1 h2 h3 h
  refine⟨?_,h.2⟩
  cases hr:Region.ready .any ops listed with
  |nil=>rfl
  |cons i l=>
   have:=(up listed fm i h1 h2 h3 (by rw[hr];simp)).2
   rw[h.1]at this;cases this
 |succ fuel ih=>
  intro listed fm a w h1 h2 h3 h
  refine⟨λhe=>h.1 ?_,λi hi=>?_⟩
  ·cases hr:Region.ready .any (nw p ops) fm with
   |nil=>rfl
   |cons k l=>
    obtain⟨i,hi⟩:=down listed fm k h1 h2 h3 (by rw[hr];simp)
    rw[he]at hi;cases hi
  ·obtain⟨cg,iz⟩:=up listed fm i h1 h2 h3 hi
   refine xz hp cg (λa' w' hk=>ih _ _ a' w' (by simpa using h1) (by simpa using h2) (λk hk=>?_) hk) (h.2 _ iz)
   have hpi:=(HU hp cg)
   have Bx:=(HU hp hk)
   have gs:∀(A:Array Bool) (x y:Nat),x<A.size->(A.setIfInBounds x true).getD y false=if x=y then true else A.getD y false:=λA x y hx=>by
    simp only[aF,Array.getElem?_setIfInBounds]
    split
    ·rename_i e;subst e;simp[hx]
    ·rfl
   rw[gs _ _ _ (by omega),gs _ _ _ (by omega)]
   by_cases e:i=k
   ·subst e;simp
   ·have gl:pos i p 0≠pos k p 0:=λe'=>by
     have:=Bx.2
     rw[<-e',hpi.2]at this
     exact e (Option.some.inj this)
    rw[if_neg e,if_neg gl];exact h3 k hk
end
theorem Zk2{ro:Option Nat}{P:Program}(hm:P.follows .mixedOrders=true){T:fq}{G:List bc}{N M id:Nat}{ops:Array Oper}{st:St}{Q:Ex->St->Prop}(hT:jz P T)(hG:jT P G){p:List Nat}(hp:Vm p ops.size=true)(h:mb T G N M (nw p ops) (nw p ops).toList st λst=>cr (Rf G (nw p ops) st.env) (Q .normal st)):tU ro P N M (.region id ops true) st Q:=by
 intro c0 w0 c w a hs
 have hs:=hs.drew
 refine Qvc hm ?_
 refine Zp3 hp ops.size _ (gL ops.size false) a _ (by simp) (by simp) (λi hi=>by simp[aP,(HU hp hi).1,hi]) ?_
 obtain⟨s,ks,val,h1,h2,h3,h4,h5,h6⟩:=Ze6 hT hG (nw p ops).toList 0 st (by simp) h
 have hc:Vk P G N M (nw p ops) s ks val:=⟨⟨λi o ho=>h3 i o (aT _) ho,λi o t ho=>h4 i o t (aT _) ho,λi o t ho=>h5 i o t (aT _) ho⟩,λi o ho=>h6 i o (aT _) ho⟩
 have fx:s (0+(nw p ops).toList.length)=s (nw p ops).size:=by simp
 rw[fx]at h2
 obtain⟨hd,h2⟩:=da.1 h2
 have mh:=Qpj hp
 obtain⟨d,g1,g2,g3,g4⟩:=Na G (nw p ops) _ 0 rfl (aT _)
 have hz:∀i,(gL (nw p ops).size false).getD i false=false:=λi=>by
  by_cases h:i<(nw p ops).size
  ·simp[aP,h]
  ·simp[aP,h]
 rw[<-mh]
 refine yy hc hd (Q:=λe a' w'=>∃ex ju c',mW e=some ex/\Q ex ju/\fw N M c0 w0 c' w' ju a') (λc w a ji=>⟨_,_,c,rfl,h2,ji⟩) (nw p ops).size _ a _ 0 d (by simp) (Wl _ _)
  ⟨g1,g2,λi hi=>by omega,g3,g4,λj hj=>by simp[hz]at hj,hs.size,hs.defers,hs.gh,hs.gw,c,λ_=>0,hs.mem,λr=>?_,λt _ _=>?_,hs.reach,λi _ hl=>by simp[hz]at hl,λi j _ _ hl=>by simp[hz]at hl⟩
 ·rw[Su (λi _=>hz _),h1];exact hs.rows r
 ·rw[Qu (λi _=>hz _),h1];exact hs.env t
theorem zz{P:Program}(hm:P.follows .mixedOrders=true):Qf P:=by
 intro ro T G N M id ops st Q hT hG h
 unfold uS at h
 split at h
 ·rename_i hd
  exact za hm ro T G N M id ops st Q hT hG hd h
 ·obtain⟨h1,h2⟩:=da.1 h
  exact Zk2 hm hT hG h1 h2
