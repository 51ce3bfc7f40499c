import Derived.Test.YtaemmjbkndlkeaaGreatMigrateEndsDraw
open List renaming all_cons->gL,mem_cons_self->eV,getD->aV,getElem?_eq_none->aJ,mem_of_getElem?->fN,mem_append_left->eT,mem_append_right->eY,mem_filter->gO,mem_range->gP
open Array renaming mem_toList_iff->gN,toArray_toList->bW,getElem?_eq_getElem->aU,getElem?_setIfInBounds_ne->aZ,getD->aY,getD_eq_getD_getElem?->aQ,getElem?_eq_none->gQ,mem_map->gR,replicate->gH
open Option renaming bind_some->aW,map_some->bA,getD_some->aR
open Bool renaming or_eq_true->aT,false_eq_true->aA,not_eq_true'->bB
open Nat renaming lt_of_lt_of_le->bM,le_refl->aX,add_zero->aB,zero_le->bC
set_option linter.all false
namespace Go.GD
open Go
set_option linter.unusedSectionVars false
variable {G:List bd}{K:D->Rows->Prop}{M N b i j k off r u:Nat}{P:Program}{Q:Exit->Act->World->Prop}{R:Rows}{T:iy}{a:Act}{arr:Array Value}{c c' c0:Ctx}{d:D}{ev:Operand->D}{dt:Nat->Bool}{o x y:Oper}{op:Op}{ops:Array Oper}{pl:Bool}{q:List Nat}{row:Row}{s:Nat->St}{st:St}{t:TypeId}{ti:TI}{ty:se}{v:Value}{val:Nat->D}{w w' w0:World}
theorem Z17{K:D->Prop}(h:uA pl ty d K):∃d',K d'/\∀K2:D->Prop,K2 d'->uA pl ty d K2:=by
 cases ty<;>simp only[uA]at h⊢
 ·exact⟨_,(dd.1 h).2,λK2 h2=>dd.2 ⟨(dd.1 h).1,h2⟩⟩
 ·exact⟨_,(dd.1 h).2,λK2 h2=>dd.2 ⟨(dd.1 h).1,h2⟩⟩
 ·exact⟨_,(dd.1 h).2,λK2 h2=>dd.2 ⟨(dd.1 h).1,h2⟩⟩
 ·cases pl
  ·simp only[D.c7]at h⊢
   exact⟨_,(dd.1 h).2,λK2 h2=>dd.2 ⟨(dd.1 h).1,h2⟩⟩
  ·exact⟨_,(dd.1 h).2,λK2 h2=>dd.2 ⟨(dd.1 h).1,h2⟩⟩
 ·cases pl
  ·simp only[D.c7]at h⊢
   exact⟨_,(dd.1 h).2,λK2 h2=>dd.2 ⟨(dd.1 h).1,h2⟩⟩
  ·cases d<;>first|exact h.elim|exact⟨_,h,λK2 h2=>h2⟩
theorem Ml{pl:Bool}{e:List D}:∀{dj:List se} {off:Nat} {K:List D->Prop},DV pl e dj off K->∃ds,K ds/\∀K2:List D->Prop,K2 ds->DV pl e dj off K2
 |[],off,K,h=>⟨[],h,λK2 h2=>h2⟩
 |t::ts,off,K,h=>by
  simp only[DV]at h⊢
  obtain⟨d,hd,h1⟩:=Z17 h
  obtain⟨ds,DW,h2⟩:=Ml hd
  exact⟨_,DW,λK2 hk=>h1 _ (h2 _ hk)⟩
theorem U4{e:List D}{K:D->Prop}(h:uB pl ti e off K):∃d,K d/\∀K2:D->Prop,K2 d->uB pl ti e off K2:=by
 unfold uB at h
 cases hg:ti.kind.isAgg with
 |true=>
  simp only[hg]at h
  obtain⟨ds,h1,h2⟩:=Ml h
  exact⟨_,h1,λK2 hk=>by unfold uB;simp only[hg];exact h2 _ hk⟩
 |false=>
  simp only[hg]at h
  split at h
  ·rename_i y hy
   obtain⟨d,h1,h2⟩:=Z17 h
   exact⟨_,h1,λK2 hk=>by unfold uB;simp only[hg,hy];exact h2 _ hk⟩
  ·exact h.elim
theorem Zi2(h:wH T t (.ptr r i off) R K):
 ∃d,K d R/\(∃row,R.getD r none=some row)/\∀R2:Rows,R2.getD r none=R.getD r none->wH T t (.ptr r i off) R2 λd' R'=>d'=d/\R'=R2:=by
 unfold wH at h
 cases hT:T.get t with
 |none=>simp only[hT]at h
 |some ti=>
  simp only[hT]at h
  cases hr:R.getD r none with
  |none=>simp only[hr]at h
  |some row=>
   obtain⟨box,ty,sz,es⟩:=row
   simp only[hr,dd]at h
   obtain⟨h0,h⟩:=h
   obtain⟨d,h1,h2⟩:=U4 h
   refine⟨d,h1,?_,λR2 uw=>?_⟩
   ·exact⟨_,rfl⟩
   ·unfold wH
    simp only[hT,uw,dd]
    exact⟨h0,h2 _ (by simp)⟩
theorem Z2h{ks:List Nat}(h:Fz d=true):d.fc ks=d:=by cases d<;>first|rfl|cases h
theorem Z2e{ks:List Nat}:∀{l:List D},l.all Fz=true->D.ji ks l=l
 |[],_=>rfl
 |d::l,h=>by
  simp only[gL,aE]at h
  simp only[D.ji]
  rw[Z2h h.1,Z2e h.2]
theorem Zn5{ks:List Nat}(h:Fz (d.fc ks)=true):d.fc ks=d:=by
 cases d<;>first
  |rfl
  |(simp only[D.fc]at h;split at h<;>cases h)
theorem Qnl{ks:List Nat}:∀{l:List D},(D.ji ks l).all Fz=true->D.ji ks l=l
 |[],_=>rfl
 |d::l,h=>by
  simp only[D.ji,gL,aE]at h
  simp only[D.ji]
  rw[Zn5 h.1,Qnl h.2]
theorem Zsr(h:pz d=true)(ks:List Nat):d.j4 ks=d.fc ks:=by
 cases d<;>first
  |rfl
  |(cases h;done)
  |(simp only[D.j4,D.kill,D.fc];rw[Z2e h])
theorem Zcc{d d':D}{ks:List Nat}(h:uA pl ty d λx=>x=d')(hd:d'.fc ks=d'):d.fc ks=d:=by
 cases ty<;>simp only[uA]at h
 ·cases d<;>first|rfl|(simp[D.isInt,dd]at h;done)
 ·cases d<;>first|rfl|(simp[D.isBool,dd]at h;done)
 ·cases d<;>first|rfl|(simp[D.isStr,dd]at h;done)
 ·cases pl
  ·simp only[D.c7,dd]at h
   rw[h.2];exact hd
  ·simp only[dd]at h
   cases d<;>first|rfl|(simp[D.Ff,dd]at h;done)
 ·cases pl
  ·simp only[D.c7,dd]at h
   rw[h.2];exact hd
  ·cases d<;>first|exact h.elim|rfl
theorem Zbn{ks:List Nat}:∀{l:List D} {j:Nat},(D.ji ks l).getD j .dead=(l.getD j .dead).fc ks
 |[],_=>rfl
 |_::_,0=>rfl
 |_::l,j+1=>Zbn (l:=l) (j:=j)
theorem Z8y(ks:List Nat)(row:Row)(i off:Nat):((row.kill ks).es.get i).getD off .dead=(row.es.get i).getD off .dead\/((row.kill ks).es.get i).getD off .dead=((row.es.get i).getD off .dead).fc ks:=by
 unfold Row.kill
 split
 ·rename_i ty sz e
  cases i with
  |zero=>exact .inr Zbn
  |succ i=>exact .inl rfl
 ·exact .inl rfl
theorem Z7k{pl:Bool}{ks:List Nat}{e e2:List D}(he:∀j,e2.getD j .dead=e.getD j .dead\/e2.getD j .dead=(e.getD j .dead).fc ks):∀{dj:List se} {off:Nat} {ds:List D},DV pl e dj off (λx=>x=ds)->ds.all Fz=true->DV pl e2 dj off λx=>x=ds
 |[],_,_,h,_=>h
 |t ::ts,off,ds,h,hd=>by
  simp only[DV]at h⊢
  obtain⟨d,h1,h2⟩:=Z17 h
  obtain⟨ds1,h3,h4⟩:=Ml h1
  subst h3
  simp only[gL,aE]at hd
  have hc:=h2 (λx=>x=d) rfl
  have e:e2.getD off .dead=e.getD off .dead:=by
   rcases he off with e|e
   ·exact e
   ·rw[e];exact Zcc hc (Z2h hd.1)
  rw[e]
  refine h2 _ ?_
  obtain⟨ds3,h5,h6⟩:=Ml (Z7k he (h4 (λx=>x=ds1) rfl) hd.2)
  exact h6 _ (by rw[h5])
theorem Zm6{v:D}{ks:List Nat}(h:uB pl ti (row.es.get i) off λx=>x=v)(hv:pz v=true)(hk:v.fc ks=v):uB pl ti ((row.kill ks).es.get i) off λx=>x=v:=by
 unfold uB at h⊢
 cases hg:ti.kind.isAgg with
 |true=>
  simp only[hg]at h⊢
  obtain⟨ds,h1,h2⟩:=Ml h
  rw[<-h1]at hv⊢
  have hd:ds.all Fz=true:=hv
  have:=Z7k (e2:=(row.kill ks).es.get i) (ks:=ks) (λj=>Z8y ks row i j) (h2 (λx=>x=ds) rfl) hd
  obtain⟨ds2,h3,h4⟩:=Ml this
  exact h4 _ (by rw[h3])
 |false=>
  simp only[hg]at h⊢
  split at h
  ·rename_i y hy
   have e:((row.kill ks).es.get i).getD off .dead=(row.es.get i).getD off .dead:=by
    rcases Z8y ks row i off with e|e
    ·exact e
    ·rw[e];exact Zcc h hk
   rw[e];exact h
  ·exact h.elim
theorem Z2c{pl:Bool}{ti:TI}{i off:Nat}{v:D}(hv:pz v=true):∀{L:List (List Nat)} {row:Row},(∀kk∈L,v.fc kk=v)->(uB pl ti (row.es.get i) off λx=>x=v)->uB pl ti ((L.foldl (λr k=>Row.kill k r) row).es.get i) off λx=>x=v
 |[],_,_,h=>h
 |k::L,row,hL,h=>Z2c hv (L:=L) (row:=row.kill k) (λkk hk=>hL kk (List.mem_cons_of_mem _ hk)) (Zm6 h hv (hL k (eV ..)))
theorem Z4y:∀(L:List (List Nat)) (row:Row),(L.foldl (λr k=>Row.kill k r) row).box=row.box/\(L.foldl (λr k=>Row.kill k r) row).sz=row.sz
 |[],_=>⟨rfl,rfl⟩
 |k::L,row=>by
  obtain⟨k1,k2,k3,k4⟩:=u5 k row
  obtain⟨h1,h2⟩:=Z4y L (row.kill k)
  exact⟨h1.trans k1,h2.trans k3⟩
theorem Zrg{R R2:Rows}{v:D}{L:List (List Nat)}(h:wH T t (.ptr r i off) R λd' R'=>d'=v/\R'=R)(hv:pz v=true)(hL:∀kk∈L,v.fc kk=v)(hr:R.getD r none=some row)(uw:R2.getD r none=some (L.foldl (λr k=>Row.kill k r) row)):
 wH T t (.ptr r i off) R2 λd' R'=>d'=v/\R'=R2:=by
 obtain⟨s1,s2⟩:=Z4y L row
 unfold wH at h⊢
 cases hT:T.get t with
 |none=>simp only[hT]at h
 |some ti=>
  simp only[hT,hr]at h
  simp only[hT,uw]
  obtain⟨box,ty,sz,es⟩:=row
  simp only at h s1 s2
  generalize cz:L.foldl (λr k=>Row.kill k r) (⟨box,ty,sz,es⟩:Row)=jC at s1 s2⊢
  obtain⟨QM,ty2,sz2,es2⟩:=jC
  simp only at s1 s2⊢
  subst s1;subst s2
  simp only[dd]at h⊢
  refine⟨h.1,?_⟩
  have hx:uB (!QM) ti (es.get i) off λx=>x=v:=by
   obtain⟨d,h1,h2⟩:=U4 h.2
   exact h2 _ h1.1
  have:=Z2c (L:=L) (row:=⟨QM,ty,sz2,es⟩) hv hL hx
  rw[cz]at this
  obtain⟨d,h1,h2⟩:=U4 this
  exact h2 _ ⟨h1,by first|trivial|rfl⟩
theorem Zg0(h:He T t (.ptr r i off) d R K):
 ∃R',K .dead R'/\(∀r',r'≠r->R'.getD r' none=R.getD r' none)/\He T t (.ptr r i off) d R λd' R2=>d'=.dead/\R2=R':=by
 unfold He at h
 cases hT:T.get t with
 |none=>simp only[hT]at h
 |some ti=>
  simp only[hT]at h
  cases hr:R.getD r none with
  |none=>simp only[hr]at h
  |some row=>
   obtain⟨box,ty,sz,es⟩:=row
   simp only[hr,dd]at h
   obtain⟨h0,h⟩:=h
   have uD:∀(x:Option Row) (r':Nat),r'≠r->(R.set r x).getD r' none=R.getD r' none:=λx r' h=>by
    simp only[aV,List.getElem?_set_ne (Ne.symm h)]
   cases box with
   |true=>
    simp only[D.e7,nf]at h
    refine⟨_,h,uD _,?_⟩
    unfold He
    simp only[hT,hr,dd,D.e7,nf]
    exact⟨h0,by simp⟩
   |false=>
    simp only[nf]at h
    refine⟨_,h.2,uD _,?_⟩
    unfold He
    simp only[hT,hr,dd,nf]
    exact⟨h0,h.1,by simp⟩
structure U5(P:Program)(o:Oper)(row:Row)(arr:Array Value):Prop where
 box:row.box=true
 sz:0<row.sz
 cells:∃e,row.es=.gen [e]/\e.length=row.sz/\arr.size=row.sz/\∀(c:Ctx) (w:World),kJ c w e arr 0
 run:∀(ev:Operand->Value) (w:World),(execOp ev o).run P w=.ok (.value (.pointer (some ⟨w.heap.size,0,none⟩))) (w.alloc (.cells arr row.ty))
theorem Zsh(hT:Q4 P T)(ho:o.op=.alloc t){k:TK}{sz b:Nat}{cs:List se}{ds:List D}{e:Bool}(ht:T.get t=some ⟨k,sz,b,cs,some ds,e⟩)(h0:0<sz)(hl:ds.length=sz):∃arr,U5 P o ⟨true,t,sz,.gen [ds]⟩ arr:=by
 obtain⟨i,u,hi,hu,hz,_,_,_,hzero⟩:=Qh hT ht
 have hb:∀(c:Ctx) (w:World),UT c w ⟨true,t,sz,.gen [ds]⟩ u.cells:=λc w=>ZG h0 hl (Ji hz c w)
 have ft:u.cells.size=sz:=by have:=L0 hz;simp at this;omega
 refine⟨u.cells,⟨rfl,h0,⟨ds,rfl,hl,ft,λc w=>?_⟩,λev w=>?_⟩⟩
 ·have:=(hb c w).2
  simp only[if_true]at this
  obtain⟨e',h1,_,_,h4⟩:=this
  cases h1;exact h4
 ·simp only[execOp,ho,Instr.alloc,Sem.run_bind,hzero,Result.andThen_ok,ZH,Sem.run_pure]
structure Jx(P:Program)(G:List bd)(o:Oper)(env:List (Nat×D))(R:Rows)(ks:List Nat)(val:D)(R':Rows):Prop where
 ld:∀t a r ii off,o.guard=none->o.op=.load t (.tmp a)->look env a=.ptr r ii off->ks=[]/\R'=R/\(∃row,R.getD r none=some row)/\(∀(ev:Operand->D) (R2:Rows),ev (.tmp a)=.ptr r ii off->R2.getD r none=R.getD r none->pI P o ev R2 val R2)/\∀(ev:Operand->D) (R2:Rows) row (L:List (List Nat)),pz val=true->(∀kk∈L,val.fc kk=val)->ev (.tmp a)=.ptr r ii off->R.getD r none=some row->R2.getD r none=some (L.foldl (λr k=>Row.kill k r) row)->pI P o ev R2 val R2
 st:∀t b x r ii off,o.guard=none->o.op=.store t (.tmp b) x->look env b=.ptr r ii off->ks=[]/\∀r',r'≠r->R'.getD r' none=R.getD r' none
 pu:∀q,o.guard=none->lI env o.op=some q->ks=[]/\R'=R/\∀(ev:Operand->D) (R2:Rows),(∀x∈o.op.operands,ev x=cq env x)->pI P o ev R2 val R2
 cl:∀f args dj,o.guard=none->o.op=.call ⟨.value (.func f),args,dj⟩->(oX G f=none/\Z9 G f=false)->ks=[]
 al:∀t,o.guard=none->o.op=.alloc t->ks=[]/\∃row arr,U5 P o row arr/\val=.ptr R.length 0 0/\R'=R++[some row]
 ap2:∀args dj,o.guard=none->o.op=.call ⟨.builtin .append,args,dj⟩->∀r row,R.getD r none=some row->da r ks=false->R'.getD r none=some (row.kill ks)
 ap:∀args dj x l,o.guard=none->o.op=.call ⟨.builtin .append,args,dj⟩->args.toList=.tmp x::l->Z6 (look env x)=true->ks=[]/\∀r row,R.getD r none=some row->R'.getD r none=some row
theorem AD{a:Nat}:∀{l:List Operand},a∈lT l↔Operand.tmp a∈l
 |[]=>by simp[lT]
 |x::l=>by cases x<;>simp[lT,AD (l:=l)]
theorem Zod(h:rC op=some q){a:Nat}(ha:Operand.tmp a∈op.operands):a∈q:=by
 unfold rC at h
 split at h
 ·cases h;rw[AD];simpa[Op.operands]using ha
 ·cases h;rw[AD];simpa[Op.operands]using ha
 ·cases h;rw[AD];simpa[Op.operands]using ha
 ·cases h;rw[AD];simpa[Op.operands]using ha
 ·cases h;rw[AD];simpa[Op.operands]using ha
 ·split at h
  ·cases h
  ·cases h;rw[AD];simpa[Op.operands]using ha
 ·cases h
theorem Zhd(h:rC op=some q):rY G op=false/\Ga op=false/\(∀t x,op≠.load t x)/\(∀t x y,op≠.store t x y)/\∀c,op≠.call c:=by
 unfold rC at h
 split at h<;>first|exact⟨rfl,rfl,λ_ _ h=>(by cases h),λ_ _ _ h=>(by cases h),λ_ h=>(by cases h)⟩|cases h
theorem vU(hq:rC op=some q)(h:gr T op ev R K):
 ∃val,K val R/\∀(gx:Operand->D) (R2:Rows),(∀x∈op.operands,gx x=ev x)->gr T op gx R2 λd R'=>d=val/\R'=R2:=by
 unfold rC at hq
 split at hq
 ·rename_i x
  simp only[gr,D.c7]at h⊢
  exact⟨_,h,λgx R2 he=>⟨he x (by simp[Op.operands]),trivial⟩⟩
 ·rename_i x
  simp only[gr,D.c7]at h⊢
  exact⟨_,h,λgx R2 he=>⟨he x (by simp[Op.operands]),trivial⟩⟩
 ·rename_i x n
  simp only[gr]at h⊢
  split at h
  ·rename_i ds DW
   simp only[dd,D.c7]at h
   refine⟨_,h.2,λgx R2 he=>?_⟩
   rw[he x (by simp[Op.operands]),DW]
   simp only[dd,D.c7]
   exact⟨h.1,trivial,trivial⟩
  ·exact h.elim
 ·rename_i x
  simp only[gr]at h⊢
  split at h
  ·rename_i hx
   refine⟨_,h,λgx R2 he=>?_⟩
   rw[he x (by simp[Op.operands]),hx]
   simp
  ·rename_i hx
   refine⟨_,h,λgx R2 he=>?_⟩
   rw[he x (by simp[Op.operands]),hx]
   simp
  ·exact h.elim
 ·rename_i t x f
  simp only[gr]at h⊢
  split at h
  ·simp only[dd]at h⊢
   obtain⟨h0,h⟩:=h
   split at h
   ·rename_i hx
    refine⟨_,h,λgx R2 he=>⟨h0,?_⟩⟩
    rw[he x (by simp[Op.operands]),hx]
    simp
   ·rename_i hx
    refine⟨_,h,λgx R2 he=>⟨h0,?_⟩⟩
    rw[he x (by simp[Op.operands]),hx]
    simp
   ·exact h.elim
  ·exact h.elim
 ·rename_i t len parts
  simp only[gr,Hq]at h⊢
  cases hl:UJ t len
  rotate_left
  ·simp only[hl]at hq;cases hq
  simp only[hl,w7]at h⊢
  obtain⟨val,h1,h2⟩:=Znt h
  exact⟨val,h1,λgx R2 he=>h2 gx R2 λp hp=>he p.2 (by simp[Op.operands];exact⟨p.1,by simpa using hp⟩)⟩
 ·cases hq
theorem xx(hq:rC o.op=some q){K:St->Prop}(h:lN T G N M o st K):gr T o.op (cq st.env) st.rows λd R=>st.put N o.dst d R K:=by
 obtain⟨dst,op,type,pos,after,guard⟩:=o
 simp only at hq⊢
 unfold rC at hq
 split at hq<;>first|exact h|cases hq
theorem xav{op:BinOp}{x y:D}{K:D->Prop}(h:sJ T op t x y K):∃val,K val/\∀K',K' val->sJ T op t x y K':=by
 unfold sJ at h⊢
 split at h
 ·split at h
  ·simp only[dd]at h⊢;exact⟨_,h.2,λK' h'=>⟨h.1,h'⟩⟩
  ·simp only[dd]at h⊢;exact⟨_,h.2,λK' h'=>⟨h.1,h'⟩⟩
  ·rename_i n1 n2
   simp only[dd]at h⊢
   obtain⟨h1,h⟩:=h
   unfold UQ at h⊢
   split at h<;>first|exact⟨_,h,λK' h'=>⟨h1,h'⟩⟩|(simp only[dd]at h⊢;exact⟨_,h.2,λK' h'=>⟨h1,h.1,h'⟩⟩)|exact h.elim
 ·split at h<;>first|exact⟨_,h,λK' h'=>h'⟩|(simp only[dd]at h⊢;exact⟨_,h.2,λK' h'=>⟨h.1,h'⟩⟩)|exact h.elim
 ·split at h
  ·split at h<;>first|exact⟨_,h,λK' h'=>h'⟩|exact h.elim
  ·exact h.elim
 ·split at h
  ·simp only[dd]at h⊢
   obtain⟨h1,h⟩:=h
   split at h<;>first|exact⟨_,h,λK' h'=>⟨h1,h'⟩⟩|exact h.elim
  ·exact h.elim
 ·exact h.elim
theorem xV{s d:TypeId}{x:D}{K:D->Prop}(h:Md T s d x K):∃val,K val/\∀K',K' val->Md T s d x K':=by
 unfold Md at h⊢
 split at h
 ·split at h
  ·exact⟨_,h,λK' h'=>h'⟩
  ·exact h.elim
 ·split at h
  ·exact⟨_,h,λK' h'=>h'⟩
  ·exact h.elim
 ·exact h.elim
theorem Zfq{place:Nat->Option (Nat×Nat)}{ev:Operand->D}:∀{parts:List (Nat×Operand)} {cs:List D} {K:List D->Prop},Fm place ev parts cs K->∃l,K l/\∀(gx:Operand->D) (K':List D->Prop),(∀p∈parts,gx p.2=ev p.2)->K' l->Fm place gx parts cs K'
 |[],cs,K,h=>by
  simp only[Fm,D.e7]at h⊢
  exact⟨_,h,λgx K' _ h'=>h'⟩
 |(i,x)::ps,cs,K,h=>by
  simp only[Fm]at h⊢
  split at h
  ·rename_i off n hp
   simp only[dd]at h
   obtain⟨h1,h⟩:=h
   obtain⟨l,g1,g2⟩:=Zfq h
   refine⟨l,g1,λgx K' he h'=>?_⟩
   have hx:=he (i,x) (by simp)
   simp only at hx
   simp only[hx,dd]
   exact⟨h1,g2 gx K' (λp hpp=>he p (by simp[hpp])) h'⟩
  ·exact h.elim
theorem zx{parts:List (Nat×Operand)}(h:Mf T t parts ev R K):∃val,K val R/\∀(gx:Operand->D) (R2:Rows),(∀p∈parts,gx p.2=ev p.2)->Mf T t parts gx R2 λd R'=>d=val/\R'=R2:=by
 unfold Mf at h⊢
 split at h
 ·simp only[dd]at h⊢
  obtain⟨h1,h⟩:=h
  obtain⟨l,g1,g2⟩:=Zfq h
  exact⟨_,g1,λgx R2 he=>⟨h1,g2 gx _ he (by simp)⟩⟩
 ·simp only[dd]at h⊢
  obtain⟨h1,h⟩:=h
  obtain⟨l,g1,g2⟩:=Zfq h
  exact⟨_,g1,λgx R2 he=>⟨h1,g2 gx _ he (by simp)⟩⟩
 ·exact h.elim
theorem Mm{x:D}{lo hi:Option Operand}(h:Me T t x lo hi ev R K)(hx:Fz x=true):∃val,K val R/\∀(gx:Operand->D) (R2:Rows),(∀y,lo=some y->gx y=ev y)->(∀y,hi=some y->gx y=ev y)->Me T t x lo hi gx R2 λd R'=>d=val/\R'=R2:=by
 have QN:∀(x:Option Operand) (n:Int) (gx:Operand->D),(∀y,x=some y->gx y=ev y)->rQ x gx n=rQ x ev n:=λx n gx he=>by
  unfold rQ
  cases x with
  |none=>rfl
  |some y=>simp only[he y rfl]
 unfold Me at h⊢
 split at h
 all_goals cases x<;>first|exact h.elim|(cases hx;done)|skip
 all_goals
  simp only at h
  split at h
  ·rename_i l hh e1 e2
   simp only[dd]at h
   refine⟨_,h.2,λgx R2 he1 he2=>?_⟩
   simp only[QN _ _ gx he1,QN _ _ gx he2,e1,e2,dd]
   exact⟨h.1,trivial,trivial⟩
  ·exact h.elim
theorem yx{env:List (Nat×D)}(hq:lI env op=some q)(h:gr T op (cq env) R K):
    ∃val,K val R/\ ∀(gx:Operand->D) (R2:Rows),(∀x∈op.operands,gx x=cq env x)->gr T op gx R2 λd R'=>d=val/\R'=R2:=by
  unfold lI at hq
  split at hq
  . rename_i q' hp;exact vU hp h
  . split at hq
    . rename_i t parts hn
      simp only[gr]at h⊢
      obtain⟨val,g1,g2⟩:=zx h
      exact⟨val,g1,λgx R2 he=>g2 gx R2 λp hp=>he p.2 (by simp [Op.operands];exact⟨p.1,by simpa using hp⟩)⟩
    . rename_i op' t x y ty hn
      simp only[gr]at h⊢
      obtain⟨val,g1,g2⟩:=xav h
      refine⟨val,g1,λgx R2 he=> ?_⟩
      rw[he x (by simp [Op.operands]),he y (by simp [Op.operands])]
      exact g2 _ (by simp)
    . rename_i op' t x hn
      simp only[gr]at h⊢
      split at h
      all_goals first
        |exact h.elim
        | (rename_i hx
           refine⟨_,h,λgx R2 he=> ?_⟩
           rw[he x (by simp [Op.operands]),hx]
           simp)
    . rename_i s d x hn
      simp only[gr]at h⊢
      obtain⟨val,g1,g2⟩:=xV h
      refine⟨val,g1,λgx R2 he=> ?_⟩
      rw[he x (by simp [Op.operands])]
      exact g2 _ (by simp)
    . rename_i s x f hn
      simp only[gr]at h⊢
      split at h
      . split at h
        . rename_i cs ti hx ht
          simp only[dd]at h
          obtain⟨h1,h⟩:=h
          split at h
          . rename_i CF
            simp only[D.e7]at h
            refine⟨_,h,λgx R2 he=> ?_⟩
            simp only[he x (by simp [Op.operands]),hx,ht,dd,CF,D.e7]
            exact⟨h1,trivial,trivial⟩
          . rename_i CF
            simp only[dd,D.c7]at h
            refine⟨_,h.2,λgx R2 he=> ?_⟩
            simp only[he x (by simp [Op.operands]),hx,ht,dd,CF,D.c7]
            exact⟨h1,h.1,trivial,trivial⟩
        . exact h.elim
      . exact h.elim
    . rename_i t x y hn
      simp only[gr]at h⊢
      split at h
      . rename_i ht hx hy
        simp only[dd]at h
        refine⟨_,h.2,λgx R2 he=> ?_⟩
        simp only[he x (by simp [Op.operands]),he y (by simp [Op.operands]),hx,hy,ht,dd]
        exact⟨h.1,trivial,trivial⟩
      . rename_i ht hx hy
        simp only[dd]at h
        obtain⟨h1,h⟩:=h
        split at h
        . rename_i wV
          refine⟨_,h.2,λgx R2 he=> ?_⟩
          simp only[he x (by simp [Op.operands]),he y (by simp [Op.operands]),hx,hy,ht,dd,wV]
          exact⟨h1,h.1,trivial,trivial⟩
        . rename_i wV
          refine⟨_,h.2,λgx R2 he=> ?_⟩
          simp only[he x (by simp [Op.operands]),he y (by simp [Op.operands]),hx,hy,ht,dd,wV]
          exact⟨h1,h.1,trivial,trivial⟩
        . exact h.elim
      . exact h.elim
    . rename_i t x y z hn
      split at hq
      . rename_i str hx
        simp only[gr,hx]at h⊢
        obtain⟨val,g1,g2⟩:=Mm h rfl
        refine⟨val,g1,λgx R2 he=> ?_⟩
        rw[he x (by simp [Op.operands]),hx]
        exact g2 gx R2 (λu hu=>he u (by cases hu;simp [Op.operands])) (λu hu=>he u (by cases hu;simp [Op.operands]))
      . rename_i sz es fr hx
        simp only[gr,hx]at h⊢
        obtain⟨val,g1,g2⟩:=Mm h rfl
        refine⟨val,g1,λgx R2 he=> ?_⟩
        rw[he x (by simp [Op.operands]),hx]
        exact g2 gx R2 (λu hu=>he u (by cases hu;simp [Op.operands])) (λu hu=>he u (by cases hu;simp [Op.operands]))
      . cases hq
    . rename_i t x y hn
      split at hq
      . rename_i str hx
        simp only[gr,hx]at h⊢
        obtain⟨val,g1,g2⟩:=Mm h rfl
        refine⟨val,g1,λgx R2 he=> ?_⟩
        rw[he x (by simp [Op.operands]),hx]
        exact g2 gx R2 (λu hu=>he u (by cases hu;simp [Op.operands])) (λu hu=>he u (by cases hu))
      . rename_i sz es fr hx
        simp only[gr,hx]at h⊢
        obtain⟨val,g1,g2⟩:=Mm h rfl
        refine⟨val,g1,λgx R2 he=> ?_⟩
        rw[he x (by simp [Op.operands]),hx]
        exact g2 gx R2 (λu hu=>he u (by cases hu;simp [Op.operands])) (λu hu=>he u (by cases hu))
      . cases hq
    . rename_i t x y hn
      split at hq
      . rename_i str hx
        simp only[gr,hx]at h⊢
        obtain⟨val,g1,g2⟩:=Mm h rfl
        refine⟨val,g1,λgx R2 he=> ?_⟩
        rw[he x (by simp [Op.operands]),hx]
        exact g2 gx R2 (λu hu=>he u (by cases hu)) (λu hu=>he u (by cases hu;simp [Op.operands]))
      . rename_i sz es fr hx
        simp only[gr,hx]at h⊢
        obtain⟨val,g1,g2⟩:=Mm h rfl
        refine⟨val,g1,λgx R2 he=> ?_⟩
        rw[he x (by simp [Op.operands]),hx]
        exact g2 gx R2 (λu hu=>he u (by cases hu)) (λu hu=>he u (by cases hu;simp [Op.operands]))
      . cases hq
    . rename_i t x y hn
      split at hq
      . rename_i sz es fr hx
        simp only[gr,hx]at h⊢
        split at h
        . rename_i k n hy
          unfold US at h⊢
          split at h
          . rename_i ht
            simp only[dd]at h
            refine⟨_,h.2,λgx R2 he=> ?_⟩
            simp only[he x (by simp [Op.operands]),he y (by simp [Op.operands]),hx,hy,ht,dd]
            exact⟨h.1,trivial,trivial⟩
          . simp only[dd]at h
            exact h.2.elim
          . exact h.elim
        . exact h.elim
      . cases hq
    . rename_i t x hn
      split at hq
      . rename_i sz es i off hx
        simp only[gr,hx]at h⊢
        unfold wH at h⊢
        split at h
        . exact h.elim
        . rename_i ti ht
          simp only[dd]at h
          obtain⟨d,g1,g2⟩:=U4 h.2
          refine⟨d,g1,λgx R2 he=> ?_⟩
          simp only[he x (by simp [Op.operands]),hx,ht,dd]
          exact⟨h.1,g2 _ (by simp)⟩
      . cases hq
    . rename_i args dj hn
      split at hq
      . rename_i x fu
        have hxm:x∈(Op.call {callee:= .builtin .len,args:=args,argTypes:=dj}).operands:=by simp [Op.operands,Call.operands];rw[<-gN,fu];simp
        simp only[gr,fu]at h⊢
        split at h
        . rename_i y t e1 e2
          cases e1
          rw[e2]at*
          split at hq
          . rename_i str hx
            simp only[hx]at h⊢
            unfold sO at h⊢
            split at h
            . simp only at h
              exact⟨_,h,λgx R2 he=>by simp only[he x hxm,hx];simp⟩
            . exact h.elim
            . exact h.elim
          . rename_i sz es fr hx
            simp only[hx]at h⊢
            unfold sO at h⊢
            split at h
            . exact h.elim
            . simp only at h
              exact⟨_,h,λgx R2 he=>by simp only[he x hxm,hx];simp⟩
            . exact h.elim
          . cases hq
        . exact h.elim
      . cases hq
    . cases hq
theorem Z7b{env:List (Nat×D)}(h:lI env op=some q){a:Nat}(ha:Operand.tmp a∈op.operands):a∈q:=by
 unfold lI at h
 split at h
 ·cases h;exact Zod (by assumption) ha
 ·split at h
  all_goals first
   |(cases h;done)
   |(cases h;rw[AD];simpa[Op.operands]using ha)
   |(split at h<;>first|(cases h;done)|(cases h;rw[AD];simpa[Op.operands]using ha))
   |skip
  split at h
  ·rename_i x hx
   have jE:Operand.tmp a=x:=by
    simp[Op.operands,Call.operands]at ha
    rw[<-gN,hx]at ha
    simpa using ha
   split at h<;>first|(cases h;done)|(cases h;rw[AD,jE];simp)
  ·cases h
theorem Z8j{env:List (Nat×D)}(h:lI env op=some q):rY G op=false/\Ga op=false/\(∀t x y,op≠.store t x y)/\(∀f args dj,op≠.call ⟨.value (.func f),args,dj⟩)/\∀t,op≠.alloc t:=by
 unfold lI at h
 split at h
 ·rename_i q' hp
  obtain⟨h1,h2,h3,h4,h5⟩:=Zhd (G:=G) hp
  exact⟨h1,h2,h4,λ_ _ _=>h5 _,λt e=>by rw[e]at hp;cases hp⟩
 ·split at h<;>first|(cases h;done)|exact⟨rfl,rfl,λ_ _ _ h=>(by cases h),λ_ _ _ h=>(by cases h),λ_ h=>(by cases h)⟩
theorem Ztb(hq:lI st.env o.op=some q){K:St->Prop}(h:lN T G N M o st K):gr T o.op (cq st.env) st.rows λd R=>st.put N o.dst d R K:=by
  obtain⟨dst,op,type,pos,after,guard⟩:=o
  simp only at hq⊢
  unfold lI at hq
  split at hq
  . rename_i q' hp
    exact xx (o:=⟨dst,op,type,pos,after,guard⟩) hp h
  . split at hq
    all_goals first
      |(cases hq;done)
      |exact h
      |skip
    . rename_i op' t x y ty hn
      unfold lN at h
      simp only at h
      split at h
      . rename_i hx hy
        rw[hx]at hq;cases hq
      . rename_i hx hy
        rw[hx]at hq;cases hq
      . exact h
    . rename_i s d x hn
      unfold lN at h
      simp only at h
      split at h
      . exfalso
        unfold u0 at h
        split at h
        . split at h
          . rename_i he
            split at hq
            . rename_i hx;rw[hx]at he;cases he
            . rename_i hx;rw[hx]at he;cases he
            . cases hq
          . exact h
        . exact h
      . exact h
theorem Zdt(h:Z6 d=true):uL d=true:=by cases d<;>first|rfl|cases h
theorem Z7w{ks:List Nat}{d p:D}(hp:uL p=true)(h:d.j4 ks=p):d=p:=by
 subst h
 cases d<;>first
  |rfl
  |(simp only[D.j4,D.kill,D.fc]at hp⊢;split at hp<;>first|(cases hp;done)|simp_all)
  |(simp only[D.j4,D.kill,uL]at hp⊢;rw[Qnl hp])
  |(simp[D.j4,uL]at hp;done)
theorem Zsb{env mh:List (Nat×D)}(h:lI env op=some q)(hb: ∀a∈q,uL (look env a)=true->look mh a=look env a):lI mh op=some q:=by
  have one: ∀(x:Operand),(∀a,x= .tmp a->a∈q)->uL (cq env x)=true->cq mh x=cq env x:=λx hx hs=>by
    cases x with
    |tmp a=>exact hb a (hx a rfl) hs
    |_=>rfl
  unfold lI at h⊢
  split at h
  . exact h
  . split at h
    all_goals first
      |(cases h;done)
      |exact h
      |skip
    all_goals
      split at h
      all_goals first
        |(cases h;done)
        | (rename_i hx
           cases h
           first
             |(have:=one _ (λa e=>by rw[AD,<-e];exact eV) (by rw[hx];rfl);rw[this,hx])
             |(have:=one _ (λa e=>by rw[AD,<-e];simp) (by rw[hx];rfl);rw[this,hx]))
        |skip
    split at h
    all_goals first
      |(cases h;done)
      | (rename_i hx
         cases h
         have:=one _ (λa e=>by rw[AD,<-e];exact eV) (by rw[hx];rfl);rw[this,hx])
theorem qy{t tx:TypeId}{x y:D}{K:List Nat->D->Rows->Prop}(h:LZ T M t tx x y R K):
 LZ T M t tx x y R λks d R'=>((Z6 x=true->ks=[]/\∀r row,R.getD r none=some row->R'.getD r none=some row)/\∀r row,R.getD r none=some row->da r ks=false->R'.getD r none=some (row.kill ks))/\K ks d R':=by
 have go:∀{e sz lz:Nat} {Jy:List Nat} {es ys:ai},(Z6 x=true->Jy=[])->Cv e sz lz R Jy es ys K->Cv e sz lz R Jy es ys λks d R'=>((Z6 x=true->ks=[]/\∀r row,R.getD r none=some row->R'.getD r none=some row)/\∀r row,R.getD r none=some row->da r ks=false->R'.getD r none=some (row.kill ks))/\K ks d R':=by
  intro e sz lz Jy es ys hx h
  simp only[Cv,dd,nf]at h⊢
  have key:∀r row,R.getD r none=some row->da r Jy=false->(rO Jy R 0++[some (⟨false,e,sz,es.app ys⟩:Row)]).getD r none=some (row.kill Jy):=λr row hr hm=>by
   have hl:r<R.length:=by
    by_cases hh:r<R.length
    ·exact hh
    ·simp only[aV,aJ (show R.length<=r by omega)]at hr;cases hr
   rw[Qq4 (by rw[I8];exact hl),PD,hr,Nat.zero_add,hm]
   simp
  refine⟨h.1,⟨λe=>⟨hx e,λr row hr=>?_⟩,key⟩,h.2⟩
  have:=key r row hr (by rw[hx e];rfl)
  rw[this,hx e,Z86]
 unfold LZ at h⊢
 split at h
 ·split at h
  ·split at h
   ·rename_i jV
    simp only[dd]at h⊢
    refine⟨h.1,?_⟩
    have h:=h.2
    cases x<;>first|(exact h.elim;done)|(exact go (λ_=>rfl) h;done)|skip
    all_goals
     (try simp only at h⊢)
     split at h
     ·exact⟨h.1,go (λe=>by cases e) h.2⟩
     ·exact h.elim
   ·exact h.elim
  ·exact h.elim
 ·exact h.elim
theorem Ztu(hT:Q4 P T)(hG:jD P G){l:List Oper}{K:St->Prop}(h:lV T G N M ops (o::l) st K):
    ∃ks val R' iG,(∀t,look iG t=look (rV ks st.env) t)/\(∀t,o.dst=some t->t<N)/\nu P G M ops o st.env st.rows ks val R'/\lV T G N M ops l ⟨rW iG o.dst val,R'⟩ K/\Jx P G o st.env st.rows ks val R':=by
  by_cases hL: ∃t a r ii off,o.guard=none/\o.op= .load t (.tmp a)/\look st.env a= .ptr r ii off
  . obtain⟨t,a,r,ii,off,hg,ho,ha⟩:=hL
    simp only[lV,hg,lN,ho,gr,cq,ha]at h
    obtain⟨d,h1,h2,h3⟩:=Zi2 h
    obtain⟨g1,g2⟩:=oE h1
    have hN: ∀(ev:Operand->D) (R2:Rows),ev (.tmp a)= .ptr r ii off->R2.getD r none=st.rows.getD r none->pI P o ev R2 d R2:=λev R2 he uw=>by
      have:=h3 R2 uw
      obtain⟨val,R',⟨rfl,rfl⟩,hO⟩:=M5 hT o ev R2 (λd' R'=>d'=d/\R'=R2) (by simp only[ho,gr,he];exact this)
      simpa [ho,Ga] using hO
    have hN2: ∀(ev:Operand->D) (R2:Rows) row (L:List (List Nat)),pz d=true->(∀kk∈L,d.fc kk=d)->ev (.tmp a)= .ptr r ii off->st.rows.getD r none=some row->R2.getD r none=some (L.foldl (λr k=>Row.kill k r) row)->pI P o ev R2 d R2:=λev R2 row L hd hL he hr uw=>by
      have:=Zrg (h3 st.rows rfl) hd hL hr uw
      obtain⟨val,R',⟨rfl,rfl⟩,hO⟩:=M5 hT o ev R2 (λd' R'=>d'=d/\R'=R2) (by simp only[ho,gr,he];exact this)
      simpa [ho,Ga] using hO
    refine⟨[],d,st.rows,st.env,λt=>oC.symm,g1,?_,g2,λt' a' r' ma iK _ jo jE=> ?_,λt' b x r' ma iK _ jo=> ?_,λq _ hq=> ?_,λf args dj _ hf _=>by simp [ho]at hf,λt' _ hf=>by simp [ho]at hf,λargs dj _ hf=>by simp [ho]at hf,λargs dj x' l' _ hf=>by simp [ho]at hf⟩
    . unfold nu
      simp only[hg]
      exact AM (by rw[ho];rfl) (hN _ _ (by simp [cq,ha]) rfl)
    . rw[ho]at jo;cases jo
      rw[ha]at jE;cases jE
      exact⟨rfl,rfl,h2,hN,hN2⟩
    . rw[ho]at jo;cases jo
    . rw[ho]at hq;simp [lI,rC,cq,ha]at hq
  . by_cases hS : ∃t b x r ii off,o.guard=none/\o.op= .store t (.tmp b) x/\look st.env b= .ptr r ii off
    . obtain⟨t,b,x,r,ii,off,hg,ho,hb⟩:=hS
      simp only[lV,hg,lN,ho,gr]at h
      rw[show cq st.env (.tmp b)= .ptr r ii off by simp [cq,hb]]at h
      obtain⟨R',h1,h2,h3⟩:=Zg0 h
      obtain⟨g1,g2⟩:=oE h1
      obtain⟨val,R2,⟨rfl,rfl⟩,hO⟩:=M5 hT o (cq st.env) st.rows (λd' R2=>d'= .dead/\R2=R') (by simp only[ho,gr];rw[show cq st.env (.tmp b)= .ptr r ii off by simp [cq,hb]];exact h3)
      refine⟨[], .dead,R2,st.env,λt=>oC.symm,g1,?_,g2,λt' a' r' ma iK _ jo=> ?_,λt' b' x' r' ma iK _ jo rI=> ?_,λq _ hq=> ?_,λf args dj _ hf _=>by simp [ho]at hf,λt' _ hf=>by simp [ho]at hf,λargs dj _ hf=>by simp [ho]at hf,λargs dj x' l' _ hf=>by simp [ho]at hf⟩
      . unfold nu
        simp only[hg]
        have hO':Ek P o (cq st.env) st.rows .dead R2:=by simpa [ho,Ga] using hO
        exact BC (by rw[ho];rfl) (λk hk=>by simp [da]at hk) hO'.toK
      . rw[ho]at jo;cases jo
      . rw[ho]at jo;cases jo
        rw[hb]at rI;cases rI
        exact⟨rfl,h2⟩
      . rw[ho]at hq;cases hq
    . by_cases hP : ∃q,o.guard=none/\lI st.env o.op=some q
      . obtain⟨q,hg,hq⟩:=hP
        simp only[lV,hg]at h
        have rG:=Ztb hq h
        obtain⟨val,Jac,Jad⟩:=yx hq rG
        obtain⟨hW,hS',MX,hnc,hna⟩:=Z8j (G:=G) hq
        have hN: ∀(ev:Operand->D) (R2:Rows),(∀x∈o.op.operands,ev x=cq st.env x)->pI P o ev R2 val R2:=λev R2 he=>by
          obtain⟨Jaw,R',⟨rfl,rfl⟩,hO⟩:=M5 hT o ev R2 _ (Jad ev R2 he)
          simpa [hS'] using hO
        obtain⟨g1,g2⟩:=oE Jac
        refine⟨[],val,st.rows,st.env,λt=>oC.symm,g1,?_,g2,λt' a' r' ma iK hg' jo jE=>(hL ⟨t',a',r',ma,iK,hg',jo,jE⟩).elim,λt' b' x' r' ma iK _ jo=>(MX _ _ _ jo).elim,λq' _ FA=>⟨rfl,rfl,hN⟩,λf args dj _ hf _=>(hnc _ _ _ hf).elim,λt' _ hf=>(hna _ hf).elim,λargs dj _ hf=>by rw[hf]at hq;simp [lI,rC]at hq,λargs dj x' l' _ hf=>by rw[hf]at hq;simp [lI,rC]at hq⟩
        unfold nu
        simp only[hg]
        exact AM hW (hN _ _ (λ_ _=>rfl))
      . by_cases hC: ∃f args dj,o.guard=none/\o.op= .call ⟨.value (.func f),args,dj⟩/\(oX G f=none/\Z9 G f=false)
        . obtain⟨f,args,dj,hg,ho,lM,Ej⟩:=hC
          obtain⟨dst,op,type,pos,after,guard⟩:=o
          simp only at hg ho
          subst hg;subst ho
          simp only[lV,lN,lM,Ej]at h
          have HR: ∀x,oF G f=some x->x.oZ=false:=λx hx=>by simpa [Z9,hx] using Ej
          obtain⟨val,R',x,hK,hx,hO,hN⟩:=Wh (dst:=dst) (type:=type) (pos':=pos) (after:=after) (guard:=none) (dj:=dj) hG lM h
          obtain⟨g1,g2⟩:=oE hK
          refine⟨[],_,_,st.env,λt=>oC.symm,g1,?_,g2,λt' a' r' ma iK _ jo=>(by cases jo),λt' b' x' r' ma iK _ jo=>(by cases jo),λq' _ FA=>(by cases FA),λ_ _ _ _ _ _=>rfl,λt' _ hf=>(by cases hf),λargs dj _ hf=>(by cases hf),λargs dj x' l' _ hf=>(by cases hf)⟩
          unfold nu
          cases hr:x.refs with
          |nil=>exact AM (by simp only[rY,hx,hr,HR x hx]) (hN hr)
          |cons b bs=>exact BC (by simp only[rY,hx,hr]) (λk hk=>by simp [da]at hk) hO.toK
        . by_cases hAl: ∃t,o.guard=none/\o.op= .alloc t
          . obtain⟨t,hg,ho⟩:=hAl
            obtain⟨dst,op,type,pos,after,guard⟩:=o
            simp only at hg ho
            subst hg;subst ho
            simp only[lV,lN,gr]at h
            split at h
            . rename_i ht
              simp only[dd,aE,Ke]at h
              obtain⟨⟨h0,hl⟩,h⟩:=h
              obtain⟨g1,g2⟩:=oE h
              obtain⟨arr,hA⟩:=Zsh (o:=⟨dst, .alloc t,type,pos,after,none⟩) hT rfl ht (lE h0) (bE hl)
              refine⟨[],_,_,st.env,λt=>oC.symm,g1,?_,g2,λt' a' r' ma iK _ jo=>(by cases jo),λt' b' x' r' ma iK _ jo=>(by cases jo),λq' _ FA=>(by cases FA),λ_ _ _ _ hf=>(by cases hf),λt' _ hf=>⟨rfl,_,arr,hA,rfl,rfl⟩,λargs dj _ hf=>(by cases hf),λargs dj x' l' _ hf=>(by cases hf)⟩
              unfold nu
              exact AM rfl (PN λc w a hm Sq eh=>⟨_,rfl,Zps hT ht (lE h0) (bE hl) st.rows.length c w⟩)
            . exact h.elim
          by_cases hAp: ∃args dj,o.guard=none/\o.op= .call ⟨.builtin .append,args,dj⟩
          . obtain⟨args,dj,hg,ho⟩:=hAp
            obtain⟨dst,op,type,pos,after,guard⟩:=o
            simp only at hg ho
            subst hg;subst ho
            simp only[lV,lN]at h
            split at h
            . rename_i x y t tx o7 ht
              have Jz:args= #[x,y]:=by rw[<-bW (xs:=args),o7]
              have ua:dj= #[t,tx]:=by rw[<-bW (xs:=dj),ht]
              subst Jz;subst ua
              have h':=qy h
              obtain⟨ks,R',⟨⟨Jae,Cx⟩,hK⟩,hM,hr⟩:=Zpu (ty:=type) hT h'
              rw[HQ]at hK
              obtain⟨h1,h2⟩:=oE hK
              refine⟨ks,_,_,_,λt=>rfl,h1,?_,h2,λt' a' r' ma iK _ jo=>(by cases jo),λt' b' x' r' ma iK _ jo=>(by cases jo),λq' _ FA=>(by cases FA),λ_ _ _ _ hf=>(by cases hf),λt' _ hf=>(by cases hf),λargs dj _ hf r row hr hm=>Cx r row hr hm,λargs dj x' l' _ hf ha he=> ?_⟩
              rotate_left
              . cases hf
                have hx:x= .tmp x':=by
                  have:=congrArg List.head? ha
                  simpa using this
                subst hx
                exact Jae he
              unfold nu
              refine BC rfl hM λc w a hm hb hR eh K' Q pX=> ?_
              obtain⟨v',w',c',il,hn,j7,hv⟩:=hr c w _ _ hm hb hR (eh x (by simp [Op.operands,Call.operands])) (eh y (by simp [Op.operands,Call.operands]))
              refine Gb ?_ (pX v' w' c' hn j7 hv)
              simp only[execOp,resolve,Sem.run_bind,Sem.run_pure,Result.andThen_ok,invoke,builtin]
              have:(#[x,y]:Array Operand).map a.eval= #[a.eval x,a.eval y]:=by simp
              rw[this,il];rfl
            . exact h.elim
          obtain⟨ks,val,R',iG,h0,h1,h2,h3⟩:=VY hT hG h
          exact⟨ks,val,R',iG,h0,h1,h2,h3,λt a r ii off hg ho ha=>(hL ⟨t,a,r,ii,off,hg,ho,ha⟩).elim,λt b x r ii off hg ho hb=>(hS ⟨t,b,x,r,ii,off,hg,ho,hb⟩).elim,λq hg hq=>(hP ⟨q,hg,hq⟩).elim,λf args dj hg ho lM=>(hC ⟨f,args,dj,hg,ho,lM⟩).elim,λt hg ho=>(hAl ⟨t,hg,ho⟩).elim,λargs dj hg ho=>(hAp ⟨args,dj,hg,ho⟩).elim,λargs dj x l' hg ho ha he=>(hAp ⟨args,dj,hg,ho⟩).elim⟩
theorem QO(h:pz d=true):uL d=true:=by cases d<;>first|rfl|exact h|cases h
theorem xy{ks:List Nat}(h:d.j4 ks=.ptr r i off):d=.ptr r i off:=Z7w rfl h
theorem JA{i a k:Nat}(h:kT ops i a=true)(hk:i<=k)(ho:ops[k]?=some o):o.dst≠some a:=by
 intro hd
 have hm:o∈ops.toList.drop i:=by
  have h1:(ops.toList.drop i)[k-i]?=some o:=by
   rw[List.getElem?_drop,show i+(k-i)=k by omega];simpa using ho
  exact fN h1
 have:=List.all_eq_true.1 h o hm
 simp[hd]at this
theorem Zsx{f:FuncId}(h:(match oX G f with|some _=>true|none=>Z9 G f)=false):oX G f=none/\Z9 G f=false:=by
 cases hg:oX G f with
 |none=>rw[hg]at h;exact⟨rfl,h⟩
 |some k=>rw[hg]at h;cases h
def JB(ops:Array Oper)(env:List (Nat×D))(i:Nat)(o:Oper)(q:List Nat):Prop:=
 (∀a∈q,kT ops i a=true/\uL (look env a)=true)/\∀t,o.dst=some t->kT ops (i+1) t=true/\uL (look env t)=true
theorem QP{env:List (Nat×D)}(hx:ops[i]?=some x)(hy:ops[j]?=some y)(h:Mn G ops env i j=true):
 (∃t a t' b z r r' ii off ma iK,x.guard=none/\y.guard=none/\x.op=.load t (.tmp a)/\y.op=.store t' (.tmp b) z/\kT ops i a=true/\kT ops j b=true/\look env a=.ptr r ii off/\look env b=.ptr r' ma iK/\r≠r')\/
 (∃q,x.guard=none/\y.guard=none/\lI env x.op=some q/\(∀a∈q,kT ops i a=true)/\((∃t' b z r' ma iK,y.op=.store t' (.tmp b) z/\kT ops j b=true/\look env b=.ptr r' ma iK)\/∃f args dj,y.op=.call ⟨.value (.func f),args,dj⟩/\(oX G f=none/\Z9 G f=false)))\/
 (∃q,x.guard=none/\lI env x.op=some q/\JB ops env i x q)\/
 (∃t a r ii off args dj x0 l,x.guard=none/\y.guard=none/\x.op=.load t (.tmp a)/\kT ops i a=true/\look env a=.ptr r ii off/\y.op=.call ⟨.builtin .append,args,dj⟩/\args.toList=.tmp x0::l/\kT ops j x0=true/\Z6 (look env x0)=true)\/
 (∃t a r ii off args dj td,x.guard=none/\y.guard=none/\x.op=.load t (.tmp a)/\kT ops i a=true/\look env a=.ptr r ii off/\y.op=.call ⟨.builtin .append,args,dj⟩/\x.dst=some td/\kT ops (i+1) td=true/\pz (look env td)=true):=by
 unfold Mn at h
 simp only[hx,hy]at h
 split at h
 ·rename_i t a t' b z h1 h2 h3 h4
  simp only[aE]at h
  obtain⟨g1,g2,g3⟩:=h
  split at g3
  ·rename_i r ii off r' ma iK e1 e2
   refine .inl ⟨t,a,t',b,z,r,r',ii,off,ma,iK,h1,h2,h3,h4,g1,g2,e1,e2,λe=>?_⟩
   subst e
   simp at g3
  ·rename_i sz es k off r' ma iK e1 e2
   exact .inr (.inl ⟨[a],h1,h2,by rw[h3];simp[lI,rC,cq,e1,lT],λa' ha=>by simp at ha;subst ha;exact g1,.inl ⟨t',b,z,r',ma,iK,h4,g2,e2⟩⟩)
  ·cases g3
 ·rename_i op t' b z h1 h2 h4 _
  split at h
  ·rename_i q hq
   simp only[aE]at h
   obtain⟨g1,g2,g3⟩:=h
   split at g3
   ·rename_i r' ma iK e2
    exact .inr (.inl ⟨q,h1,h2,hq,λa ha=>List.all_eq_true.1 g1 a ha,.inl ⟨t',b,z,r',ma,iK,h4,g2,e2⟩⟩)
   ·cases g3
  ·cases h
 ·rename_i op f dj h1 h2 h4
  split at h
  ·cases h
  ·rename_i H0
   have Jaf:=Zsx H0
   split at h
   ·rename_i q hq
    exact .inr (.inl ⟨q,by assumption,by assumption,hq,λa ha=>List.all_eq_true.1 h a ha,.inr ⟨_,_,_,by assumption,Jaf⟩⟩)
   ·cases h
 ·rename_i op args dj h1 h2 h4 _
  split at h
  ·rename_i q hq
   simp only[aE]at h
   refine .inr (.inr (.inl ⟨q,by assumption,hq,λa ha=>?_,λt ht=>?_⟩))
   ·have:=List.all_eq_true.1 h.1 a ha
    simpa only[aE]using this
   ·have:=h.2
    simp only[ht,aE]at this
    exact this
  ·have QQ:∀{d:D},uM d=true->∃r ii off,d=.ptr r ii off:=fun{d} k=>by
    cases d<;>first|(cases k;done)|exact⟨_,_,_,rfl⟩
   rcases Bool.or_eq_true_iff.1 h with h|h
   ·unfold CY at h
    split at h
    ·rename_i t a x0 l hxo hl
     simp only[aE]at h
     obtain⟨k1,k2,k3,k4⟩:=h
     obtain⟨r,ii,off,hr⟩:=QQ k3
     exact .inr (.inr (.inr (.inl ⟨t,a,r,ii,off,dj,h1,x0,l,by assumption,by assumption,hxo,k1,hr,by assumption,hl,k2,k4⟩)))
    ·cases h
   ·unfold CZ at h
    split at h
    ·rename_i t a td hxo tK
     simp only[aE]at h
     obtain⟨k1,k2,k3,k4⟩:=h
     obtain⟨r,ii,off,hr⟩:=QQ k2
     exact .inr (.inr (.inr (.inr ⟨t,a,r,ii,off,dj,h1,td,by assumption,by assumption,hxo,k1,hr,by assumption,tK,k3,k4⟩)))
    ·cases h
 ·cases h
theorem Znn(hy:ops[j]?=some y)(h:uN ops j=true):(∃t,y.guard=none/\y.op=.alloc t)/\∀u,y.dst=some u->∀k o',k≠j->ops[k]?=some o'->o'.dst≠some u:=by
 unfold uN at h
 simp only[hy]at h
 split at h
 ·rename_i t h1 h2
  refine⟨⟨t,h1,h2⟩,λu hu k o' hk dx hd=>?_⟩
  simp only[hu]at h
  have bh:=(Array.getElem?_eq_some_iff.1 dx).1
  have:=List.all_eq_true.1 h k (List.mem_range.2 bh)
  simp only[dx,aW,hd,aT]at this
  rcases this with this|this
  ·exact hk (bE this)
  ·simp at this
 ·cases h
theorem Q7{env:List (Nat×D)}(h:QR G ops env=true)(JX:i<j)(hx:ops[i]?=some x)(hy:ops[j]?=some y):
 (x.apart ops y=true\/((Region.before ops).getD j 0).testBit i=true)/\((kX G x.op=true/\kX G y.op=true)\/((Region.before ops).getD j 0).testBit i=true\/Mn G ops env i j=true\/((∃t,y.guard=none/\y.op=.alloc t)/\∀u,y.dst=some u->∀k o',k≠j->ops[k]?=some o'->o'.dst≠some u)):=by
 have hj:=(Array.getElem?_eq_some_iff.1 hy).1
 have h1:=List.all_eq_true.1 h j (List.mem_range.2 hj)
 simp only[aE]at h1
 have h2:=List.all_eq_true.1 h1.2 i (List.mem_range.2 JX)
 unfold wO at h2
 simp only[hx,hy,aE,aT]at h2
 exact⟨h2.1,h2.2.elim (λg=>g.elim .inl (λg=>.inr (.inl g))) (λg=>g.elim (λg=>.inr (.inr (.inl g))) (λg=>.inr (.inr (.inr (Znn hy g)))))⟩
theorem Zj9{env:List (Nat×D)}(h:QR G ops env=true)(hy:ops[j]?=some y):∀e∈y.after,Region.binds .any e=true->e.on<j:=by
 have hj:=(Array.getElem?_eq_some_iff.1 hy).1
 have h1:=List.all_eq_true.1 h j (List.mem_range.2 hj)
 simp only[aE,hy]at h1
 intro e he hb
 have:=Array.all_eq_true'.1 h1.1 e he
 simp only[hb,Bool.not_true,Bool.false_or]at this
 exact lE this
theorem qaw{env:List (Nat×D)}{ks:List Nat}{val:D}{R':Rows}(hi:ops[i]?=some o)
 (hm:Mem c w) (hb:c.base<=w.heap.size) (hR:∀r,c.R r=R.getD r none) (eh:∀t∈o.looksAt ops,Rep c w (look env t) (a.tmps.getD t undef)) (hG:nu P G M ops o env R ks val R') {K:Act->World->Prop} {Q:Exit->Act->World->Prop}
 (hK:∀v w' c',(∀k,da k ks=true->M<=k)->jN ks c w c' w'->(∀r,c'.R r=R'.getD r none)->Rep c' w' val v->K (a.put o.dst v) w'):wpOp P ops Q i K a w:=by
 have hx:∀x∈o.op.operands,Rep c w (cq env x) (a.eval x):=λx hx=>by
  cases x with
  |tmp t=>
   refine eh t ?_
   unfold Oper.looksAt
   exact eT _ (List.mem_filterMap.2 ⟨.tmp t,by simpa using hx,rfl⟩)
  |const v=>
   simp only[cq,Act.eval]
   cases hv:FT v with
   |none=>trivial
   |some d=>exact MZ hv c w
  |global g=>trivial
  |func f=>exact J3 f
 have run:pD P G M o (cq env) R ks val R'->o.nd P a w K Q:=λhX=>hX.toK.2 c w a hm hb hR hx K Q λv w' c' h1 h2 h3=>hK v w' c' hX.toK.1 h1 h2 h3
 have skip:ks=[]->val=.dw []->R'=R->K (a.put o.dst undef) w:=λe0 e1 e2=>by
  subst e0;subst e1;subst e2
  exact hK undef w c (λk hk=>by simp[da]at hk) (lL.toK ⟨hm,jc.refl _ _,Fr.refl _ _,λb hb=>.inl hb,λr row hr v=>.inl ⟨⟨row,hr⟩,v,rfl⟩⟩) hR (Sr _ _)
 unfold wpOp
 simp only[hi]
 unfold nu at hG
 cases hg:o.guard with
 |none=>
  simp only[hg]at hG
  have hw:Region.wanted o (yielded ops a.tmps)=true:=by simp[Region.wanted,hg]
  rw[if_pos hw]
  exact run hG
 |some jw=>
  obtain⟨j,want⟩:=jw
  simp only[hg]at hG
  obtain⟨g,h2,hG⟩:=hG
  have hr:=eh g (by
   unfold Oper.looksAt
   refine eY _ ?_
   simp only[hg,h2];simp)
  rcases hG with⟨b,h3,h4⟩|⟨h3,e0,e1,e2⟩
  rotate_left
  ·rw[h3]at hr
   rw[if_neg (by rw[Ss (o:=o) hg h2 hr];simp)]
   exact skip e0 e1 e2
  rw[h3]at hr
  have hw:=Su (o:=o) hg h2 hr
  by_cases e:b=want
  ·rw[if_pos e]at h4
   rw[if_pos (by rw[hw];simpa using e)]
   exact run h4
  ·rw[if_neg e]at h4
   rw[if_neg (by rw[hw];simpa using e)]
   exact skip h4.1 h4.2.1 h4.2.2
structure U6(P:Program)(G:List bd)(N M:Nat)(ops:Array Oper)(s:Nat->St)(ks:Nat->List Nat)(val:Nat->D):Prop extends Chain P G N M ops s ks val where
 mA:∀(i:Nat) (o:Oper),ops[i]?=some o->Jx P G o (s i).env (s i).rows (ks i) (val i) (s (i+1)).rows
theorem Ziu{P:Program}{T:iy}(hT:Q4 P T){G:List bd}(hG:jD P G){N M:Nat}{ops:Array Oper}{K:St->Prop}:∀(l:List Oper) (k:Nat) (st:St),ops.toList.drop k=l->lV T G N M ops l st K->
 ∃ (s:Nat->St) (ks:Nat->List Nat) (val:Nat->D),s k=st/\K (s (k+l.length))/\(∀(i:Nat) (o:Oper),k<=i->ops[i]?=some o->nu P G M ops o (s i).env (s i).rows (ks i) (val i) (s (i+1)).rows)/\
  (∀(i:Nat) (o:Oper) (t:Nat),k<=i->ops[i]?=some o->look (s (i+1)).env t=if o.dst=some t then val i else look (rV (ks i) (s i).env) t)/\(∀(i:Nat) (o:Oper) (t:Nat),k<=i->ops[i]?=some o->o.dst=some t->t<N)/\
  (∀(i:Nat) (o:Oper),k<=i->ops[i]?=some o->Jx P G o (s i).env (s i).rows (ks i) (val i) (s (i+1)).rows)
 |[],k,st,hk,h=>by
  have hlen:ops.size<=k:=by
   have:=congrArg List.length hk
   simp at this;omega
  have no:∀(i:Nat) (o:Oper),k<=i->ops[i]?=some o->False:=λi o hi ho=>by
   have:=(Array.getElem?_eq_some_iff.1 ho).1;omega
  exact⟨λ_=>st,λ_=>[],λ_=>.dead,rfl,h,λi o hi ho=>(no i o hi ho).elim,λi o t hi ho=>(no i o hi ho).elim,λi o t hi ho=>(no i o hi ho).elim,λi o hi ho=>(no i o hi ho).elim⟩
 |o ::l,k,st,hk,h=>by
  have bh:k<ops.toList.length:=by
   by_cases bh:k<ops.toList.length
   ·exact bh
   ·rw[List.drop_eq_nil_of_le (by omega)]at hk;cases hk
  rw[List.drop_eq_getElem_cons bh]at hk
  have ho:ops[k]?=some o:=by
   have:=(List.cons.inj hk).1
   rw[<-this]
   simp at bh
   simp[bh]
  obtain⟨kk,v,R',iG,h1,h2,h3,h4,h5⟩:=Ztu hT hG h
  obtain⟨s,ks,val,g1,g2,g3,g4,g5,g6⟩:=Ziu hT hG l (k+1) _ (List.cons.inj hk).2 h4
  refine⟨λi=>if i=k then st else s i,λi=>if i=k then kk else ks i,λi=>if i=k then v else val i,by simp,?_,λi p hi hp=>?_,λi p t hi hp=>?_,λi p t hi hp hd=>?_,λi p hi hp=>?_⟩
  ·simp only[List.length_cons]
   rw[if_neg (by omega),show k+(l.length+1)=k+1+l.length by omega]
   exact g2
  ·by_cases e:i=k
   ·subst e
    rw[ho]at hp;cases hp
    simp only[if_true,show¬i+1=i by omega,if_false,g1]
    exact h3
   ·simp only[if_neg e,if_neg (show¬i+1=k by omega)]
    exact g3 i p (by omega) hp
  ·by_cases e:i=k
   ·subst e
    rw[ho]at hp;cases hp
    simp only[if_true,show¬i+1=i by omega,if_false,g1]
    cases tK:o.dst with
    |none=>simp[rW,h1]
    |some u=>simp only[rW,AK,Option.some.injEq,h1]
   ·simp only[if_neg e,if_neg (show¬i+1=k by omega)]
    exact g4 i p t (by omega) hp
  ·by_cases e:i=k
   ·subst e
    rw[ho]at hp;cases hp
    exact h2 t hd
   ·exact g5 i p t (by omega) hp hd
  ·by_cases e:i=k
   ·subst e
    rw[ho]at hp;cases hp
    simp only[if_true,show¬i+1=i by omega,if_false,g1]
    exact h5
   ·simp only[if_neg e,if_neg (show¬i+1=k by omega)]
    exact g6 i p (by omega) hp
section
variable {P:Program} {G:List bd} {N M:Nat} {ops:Array Oper} {s:Nat->St} {ks:Nat->List Nat} {val:Nat->D} (hc:U6 P G N M ops s ks val)
include hc
theorem DY{i a r ii off:Nat}(hn:kT ops i a=true)(h:look (s ops.size).env a=.ptr r ii off):∀{k:Nat},i<=k->k<=ops.size->look (s k).env a=.ptr r ii off:=by
 intro k nY hk
 obtain⟨n,QE⟩:∃n,ops.size=k+n:=⟨ops.size-k,by omega⟩
 have:∀n k,i<=k->k+n<=ops.size->look (s (k+n)).env a=.ptr r ii off->look (s k).env a=.ptr r ii off:=by
  intro n
  induction n with
  |zero=>intro k _ _ h;exact h
  |succ n ih=>
   intro k h1 h2 h3
   have ho:ops[k]?=some ops[k]:=aU (by omega)
   have h4:=ih (k+1) (by omega) (by omega) (by rw[show k+1+n=k+(n+1) by omega];exact h3)
   rw[hc.env k _ a ho,if_neg (JA hn h1 ho),BD]at h4
   exact xy h4
 exact this n k nY (by omega) (by rw[<-QE];exact h)
theorem DZ{i a:Nat}(hn:kT ops i a=true)(h:uL (look (s ops.size).env a)=true):∀{k:Nat},i<=k->k<=ops.size->look (s k).env a=look (s ops.size).env a:=by
 intro k nY hk
 obtain⟨n,QE⟩:∃n,ops.size=k+n:=⟨ops.size-k,by omega⟩
 have:∀n k,i<=k->k+n<=ops.size->∀p,uL p=true->look (s (k+n)).env a=p->look (s k).env a=p:=by
  intro n
  induction n with
  |zero=>intro k _ _ p _ h;exact h
  |succ n ih=>
   intro k h1 h2 p hp h3
   have ho:ops[k]?=some ops[k]:=aU (by omega)
   have h4:=ih (k+1) (by omega) (by omega) p hp (by rw[show k+1+n=k+(n+1) by omega];exact h3)
   rw[hc.env k _ a ho,if_neg (JA hn h1 ho),BD]at h4
   exact Z7w hp h4
 exact this n k nY (by omega) _ h (by rw[<-QE])
theorem Zdz(h:lI (s ops.size).env op=some q)(hq:∀a∈q,kT ops i a=true)(h1:i<=k)(h2:k<=ops.size):lI (s k).env op=some q:=
 Zsb h λa ha hs=>DZ hc (hq a ha) hs h1 h2
theorem Z07{dt:Nat->Bool}{c:Nat}{t:Nat}:∀{n:Nat},(∀i o,i<n->ops[c+i]?=some o->o.dst=some t->dt (c+i)=false)->jd ops s val dt c n t=look (s c).env t
 |0,_=>rfl
 |n + 1,h=>by
  simp only[jd]
  rw[if_neg]
  ·exact Z07 (λi o hi=>h i o (by omega))
  ·rintro⟨g1,g2⟩
   cases hk:ops[c+n]? with
   |none=>rw[hk]at g2;cases g2
   |some o=>
    rw[hk]at g2
    rw[h n o (by omega) hk g2]at g1;cases g1
theorem Zjk{dt:Nat->Bool}{c d:Nat}{t:Nat}(hq:∀(i:Nat) (o:Oper),c<=i->i<d->ops[i]?=some o->kX G o.op=true)(hd:d<=ops.size):∀{n:Nat},c+n<=d->(∀i o,i<n->ops[c+i]?=some o->o.dst=some t->dt (c+i)=true)->jd ops s val dt c n t=look (s (c+n)).env t
 |0,_,_=>rfl
 |n +1,hn,hl=>by
  have ho:ops[c+n]?=some ops[c+n]:=aU (by omega)
  simp only[jd,ho,aW]
  rw[show c+(n+1)=(c+n)+1 by omega,hc.toChain.Ef ho (hq _ _ (by omega) (by omega) ho) t]
  by_cases pn:ops[c+n].dst=some t
  ·rw[if_pos ⟨hl n _ (by omega) ho pn,pn⟩,if_pos pn]
  ·rw[if_neg (λg=>pn g.2),if_neg pn]
   exact Zjk hq hd (by omega) (λi o hi=>hl i o (by omega))
theorem Zc0{dt:Nat->Bool}{c d:Nat}(hq:∀(i:Nat) (o:Oper),c<=i->i<d->ops[i]?=some o->kX G o.op=true)(hd:d<=ops.size):∀{n:Nat},c+n<=d->(∀i,i<n->dt (c+i)=true\/(s (c+i+1)).rows=(s (c+i)).rows)->∀r,ky s dt c n r=(s (c+n)).rows.getD r none
 |0,_,_,r=>rfl
 |n + 1,hn,hl,r=>by
  simp only[ky]
  rw[show c+(n+1)=c+n+1 by omega]
  have hlen:=J1 hc.toChain hq hd (show c<=c+n by omega) (show c+n<=c+n+1 by omega) (by omega)
  have ih:=Zc0 hq hd (n:=n) (by omega) (λi hi=>hl i (by omega)) r
  rcases hl n (by omega)with h|h
  ·simp only[h,true_and]
   split
   ·rfl
   ·rw[ih]
    by_cases h2:r<(s (c+n)).rows.length
    ·exact(J2 hc.toChain hq hd (by omega) (by omega) (by omega) h2).symm
    ·simp only[aV]
     rw[aJ (by omega),aJ (by omega)]
  ·rw[if_neg (by rw[h];omega),ih,h]
theorem Zl1{dt:Nat->Bool}{c d:Nat}(hq:∀(i:Nat) (o:Oper),c<=i->i<d->ops[i]?=some o->kX G o.op=true)(hd:d<=ops.size){r:Nat}(hr:r<(s c).rows.length):∀{n:Nat},c+n<=d->ky s dt c n r=(s c).rows.getD r none
 |0,_=>rfl
 |n+1,hn=>by
  simp only[ky]
  have hlen:=J1 hc.toChain hq hd (show c<=c by omega) (show c<=c+n by omega) (by omega)
  rw[if_neg (by omega)]
  exact Zl1 hq hd hr (by omega)
end
structure sT(w0:World)(cx:Ctx)(w:World)(b:Nat)(arr:Array Value)(ty:TypeId):Prop where
 jF:w0.heap.size<=b
 lt:b<w.heap.size
 here:w.heap[b]?=some (.cells arr ty (0,0))
 fg:¬cx.I b
 row:∀r row,cx.R r=some row->¬cx.V r->cx.ρ r≠b
theorem sT.dv{ks:List Nat}{ty:TypeId}(h:sT w0 c w b arr ty)(n:jN ks c w c' w'):sT w0 c' w' b arr ty:=by
 refine⟨h.jF,bM h.lt n.fr.size,(n.fr.heap b h.lt fun⟨r,x,h1,h2,h3⟩=>h.row r x h1 h2 h3).trans h.here,λhb=>?_,λr row hr hv e=>?_⟩
 ·rcases n.fg b hb with g|⟨s,x,_,g1,g2,g3⟩|g
  ·exact h.fg g
  ·exact h.row s x g1 g2 g3
  ·have:=h.lt;omega
 ·rcases n.ob r row hr hv with⟨⟨x,g1⟩,g2,g3⟩|⟨s,x,_,g1,g2,g3⟩|g
  ·exact h.row r x g1 g2 (by rw[<-g3];exact e)
  ·exact h.row s x g1 g2 (by rw[<-g3];exact e)
  ·have:=h.lt;omega
theorem zy(h:o.dst≠some u):(a.put o.dst v).tmps.getD u undef=a.tmps.getD u undef:=by
 cases ho:o.dst with
 |none=>simp[Act.put]
 |some x=>
  have gu:x≠u:=λe=>h (by rw[ho,e])
  simp[Act.put,aZ gu]
theorem zV{dst:Option Tmp}(h:dst=some u)(bh:u<a.tmps.size):(a.put dst v).tmps.getD u undef=v:=by
 subst h
 simp[Act.put,aY,bh]
def Mo(P:Program)(ops:Array Oper)(s:Nat->St)(val:Nat->D)(w0:World)(cx:Ctx)(w:World)(a:Act)(i b:Nat):Prop:=
 ∃ o t row arr,ops[i]?=some o/\o.guard=none/\o.op=.alloc t/\U5 P o row arr/\val i=.ptr (s i).rows.length 0 0/\(s (i+1)).rows=(s i).rows++[some row]/\sT w0 cx w b arr row.ty/\
  (∀u,o.dst=some u->a.tmps.getD u undef=.pointer (some ⟨b,0,none⟩))/\∀u,o.dst=some u->∀k o',k≠i->ops[k]?=some o'->o'.dst≠some u
theorem Mo.dv{ks:List Nat}(h:Mo P ops s val w0 c w a k b)(n:jN ks c w c' w')(nY:i≠k)(ho:ops[i]?=some o):Mo P ops s val w0 c' w' (a.put o.dst v) k b:=by
 obtain⟨o',t,row,arr,g1,g2,g3,g4,g5,g6,g7,g8,g9⟩:=h
 exact⟨o',t,row,arr,g1,g2,g3,g4,g5,g6,g7.dv n,λu hu=>by rw[zy (g9 u hu i o nY ho)];exact g8 u hu,g9⟩
theorem Qse(hm:Mem c w)(o:Obj):jc c w c (w.alloc o):=
 ⟨rfl,aX _,λb hb=>⟨hb,Ab w o b (hm.fg b hb).1⟩,λr x hr=>⟨x,hr,rfl,rfl,rfl,rfl,rfl,Iff.rfl,λnv arr ha=>⟨arr,by rw[Ab w o _ (hm.lt hr nv)];exact ha,rfl⟩⟩⟩
theorem Qzk(w:World)(o:Obj):(w.alloc o).heap.size=w.heap.size+1:=by show(w.heap.push o).size=_;simp
theorem Zt8(hm:Mem c w)(o:Obj):Mem c (w.alloc o):=
 ⟨λr row hr=>tk (Qse hm o) rfl Iff.rfl (λnv=>Ab w o _ (hm.lt hr nv)) (hm.row r row hr),hm.inj,(λb hb=>⟨by have:=(hm.fg b hb).1;rw[Qzk];omega,(hm.fg b hb).2⟩),by have:=hm.top;rw[Qzk];omega,hm.jZ.mono (Qse hm o).I⟩
theorem Zjz(hk:c.R k=none)(row:Row)(b:Nat):jc c w (c.add k row b) w:=by
 refine⟨rfl,aX _,λb hb=>⟨hb,rfl⟩,λr x hr=>?_⟩
 have gu:r≠k:=λe=>by rw[e,hk]at hr;cases hr
 exact⟨x,by simp[Ctx.add,gu,hr],rfl,rfl,rfl,rfl,by simp[Ctx.add,gu],by simp[Ctx.add,gu],λnv arr ha=>⟨arr,ha,rfl⟩⟩
theorem zaw(hm:Mem c w)(hk:c.R k=none)(hA:U5 P o row arr)(hl:sT w0 c w b arr row.ty):Mem (c.add k row b) w:=by
 have hg:=Zjz (w:=w) hk row b
 have jF:∀r x,r≠k->(c.add k row b).R r=some x->c.R r=some x/\(c.add k row b).ρ r=c.ρ r/\((c.add k row b).V r↔c.V r):=λr x e h=>⟨by simpa[Ctx.add,e]using h,by simp[Ctx.add,e],by simp[Ctx.add,e]⟩
 refine⟨λr x hr=>?_,λr s x y hr hs v1 v2 he=>?_,λb' hb=>⟨(hm.fg b' hb).1,λr x hr v=>?_⟩,hm.top,hm.jZ⟩
 ·by_cases e:r=k
  ·subst e
   simp only[Ctx.add,if_true,Option.some.injEq]at hr
   subst hr
   obtain⟨e,h1,h2,h3,h4⟩:=hA.cells
   refine .inr ⟨by simp[Ctx.add],arr,by simp only[Ctx.add,if_true];exact hl.here,hA.sz,?_⟩
   rw[if_pos hA.box]
   exact⟨e,h1,h2,h3,h4 _ _⟩
  ·obtain⟨g1,g2,g3⟩:=jF r x e hr
   exact tk hg g2 g3 (λ_=>rfl) (hm.row r x g1)
 ·by_cases e1:r=k<;>by_cases e2:s=k
  ·rw[e1,e2]
  ·obtain⟨g1,g2,g3⟩:=jF s y e2 hs
   exfalso
   refine hl.row s y g1 (λe=>v2 (g3.2 e)) ?_
   rw[<-g2,<-he,e1];simp[Ctx.add]
  ·obtain⟨g1,g2,g3⟩:=jF r x e1 hr
   exfalso
   refine hl.row r x g1 (λe=>v1 (g3.2 e)) ?_
   rw[<-g2,he,e2];simp[Ctx.add]
  ·obtain⟨g1,g2,g3⟩:=jF r x e1 hr
   obtain⟨k1,k2,k3⟩:=jF s y e2 hs
   exact hm.inj r s x y g1 k1 (λe=>v1 (g3.2 e)) (λe=>v2 (k3.2 e)) (by rw[<-g2,<-k2];exact he)
 ·by_cases e:r=k
  ·subst e
   simp only[Ctx.add,if_true]
   intro e;subst e
   exact hl.fg hb
  ·obtain⟨g1,g2,g3⟩:=jF r x e hr
   rw[g2];exact(hm.fg b' hb).2 r x g1 (λe=>v (g3.2 e))
def QS(ops:Array Oper)(env:List (Nat×D))(i:Nat)(o:Oper):Prop:=∃td,o.dst=some td/\kT ops (i+1) td=true/\pz (look env td)=true
def QT(ops:Array Oper)(s:Nat->St)(ks:Nat->List Nat)(i c:Nat):Prop:=
 (∃o t a r ii off row ao,ops[i]?=some o/\o.guard=none/\o.op=.load t (.tmp a)/\kT ops i a=true/\look (s ops.size).env a=.ptr r ii off/\(s i).rows.getD r none=some row/\(s c).rows.getD r none=some ao/\((ao=row/\∀k,i<k->k<c->ks k=[])\/(QS ops (s ops.size).env i o/\∃L:List (List Nat),ao=L.foldl (λr k=>Row.kill k r) row/\∀kk∈L,∃j,i<j/\j<c/\kk=ks j)))\/
 (∃o q,ops[i]?=some o/\o.guard=none/\lI (s ops.size).env o.op=some q/\(∀a∈q,kT ops i a=true)/\((∀k,i<k->k<c->ks k=[])\/JB ops (s ops.size).env i o q))
structure Inv2(P:Program)(G:List bd)(N M:Nat)(ops:Array Oper)(s:Nat->St)(ks:Nat->List Nat)(val:Nat->D)(c0:Ctx)(w0:World)(dt:Nat->Bool)(a:Act)(w:World)(c d:Nat):Prop where
 cd:c<=d
 dn:d<=ops.size
 pre:∀i,i<c->dt i=true\/QT ops s ks i c
 quiet:∀(i:Nat) (o:Oper),c<=i->i<d->ops[i]?=some o->kX G o.op=true
 wr:∀(o:Oper),ops[d]?=some o->kX G o.op=false
 closed:∀j,dt j=true->∀(o:Oper),ops[j]?=some o->∀e∈o.after,Region.binds .any e=true->dt e.on=true
 size:N<=a.tmps.size
 defers:lX w0.heap.size w a.defers
 fx:c0.base<=w0.heap.size
 gv:∀r row,c0.R r=some row->r<M
 ctx:∃(cx:Ctx) (B:Nat->Nat),Mem cx w/\(∀r,cx.R r=ky s dt c (d-c) r)/\(∀t,(∀k o,k<c->dt k=false->ops[k]?=some o->o.dst≠some t)->(∀k o,d<=k->dt k=true->ops[k]?=some o->o.dst≠some t)->Rep cx w (jd ops s val dt c (d-c) t) (a.tmps.getD t undef))/\wW c0 w0 cx w/\
  (∀i,d<=i->dt i=true->Mo P ops s val w0 cx w a i (B i))/\(∀i j,d<=i->d<=j->dt i=true->dt j=true->B i=B j->i=j)
theorem U7{t:Nat}(hs:N<=a.tmps.size)(hd:∀u,o.dst=some u->u<N)(h1:o.dst=some t->Rep c' w' d v)(h2:o.dst≠some t->Rep c' w' d (a.tmps.getD t undef)):Rep c' w' d ((a.put o.dst v).tmps.getD t undef):=by
 cases ho:o.dst with
 |none=>simpa[Act.put]using h2 (by rw[ho];simp)
 |some u=>
  by_cases e:u=t
  ·subst e
   have hu:u<a.tmps.size:=bM (hd u ho) hs
   simpa[Act.put,aY,hu]using h1 ho
  ·have:=h2 (by rw[ho];intro h;exact e (Option.some.inj h))
   simpa[Act.put,aZ e]using this
theorem QU{ks:Nat->List Nat}(hc:U6 P G N M ops s ks val){c d:Nat}
 (hq:∀(i:Nat) (o:Oper),c<=i->i<d->ops[i]?=some o->kX G o.op=true) (hd:d<=ops.size)
 (h:∃(cx:Ctx) (B:Nat->Nat),Mem cx w/\(∀r,cx.R r=(s c).rows.getD r none)/\(∀t,(∀k o,k<c->dt k=false->ops[k]?=some o->o.dst≠some t)->(∀k o,c<=k->dt k=true->ops[k]?=some o->o.dst≠some t)->Rep cx w (look (s c).env t) (a.tmps.getD t undef))/\wW c0 w0 cx w/\
  (∀i,c<=i->dt i=true->Mo P ops s val w0 cx w a i (B i))/\(∀i j,c<=i->c<=j->dt i=true->dt j=true->B i=B j->i=j)):
 ∀ n,c+n<=d->∃(cx:Ctx) (B:Nat->Nat),Mem cx w/\(∀r,cx.R r=ky s dt c n r)/\(∀t,(∀k o,k<c->dt k=false->ops[k]?=some o->o.dst≠some t)->(∀k o,c+n<=k->dt k=true->ops[k]?=some o->o.dst≠some t)->Rep cx w (jd ops s val dt c n t) (a.tmps.getD t undef))/\wW c0 w0 cx w/\
  (∀i,c+n<=i->dt i=true->Mo P ops s val w0 cx w a i (B i))/\(∀i j,c+n<=i->c+n<=j->dt i=true->dt j=true->B i=B j->i=j):=by
 have hlen:∀k l,c<=k->k<=l->l<=d->(s k).rows.length<=(s l).rows.length:=λk l h1 h2 h3=>J1 hc.toChain hq hd h1 h2 h3
 have QV:∀n,c+n<=d->∀r,(s (c+n)).rows.length<=r->ky s dt c n r=none:=by
  intro n
  induction n with
  |zero=>intro _ r hr;simp only[ky];simp only[aB]at hr;rw[aV,aJ hr];rfl
  |succ n ih=>
   intro hn r hr
   simp only[ky]
   have:=hlen (c+n) (c+n+1) (by omega) (by omega) (by omega)
   rw[show c+(n+1)=c+n+1 by omega]at hr
   rw[if_neg (by omega)]
   exact ih (by omega) r (by omega)
 intro n
 induction n with
 |zero=>intro _;simpa only[ky,jd,aB]using h
 |succ n ih=>
  intro hn
  obtain⟨cx,B,hm,hR,hE,nX,nK,ov⟩:=ih (by omega)
  cases hl:dt (c+n)with
  |false=>
   refine⟨cx,B,hm,λr=>?_,λt ht he=>?_,nX,λi hi GV=>nK i (by omega) GV,λi j hi hj=>ov i j (by omega) (by omega)⟩
   ·simp only[ky,hl,aA,false_and,if_false];exact hR r
   ·simp only[jd,hl,aA,false_and,if_false]
    refine hE t ht λk o hk oz=>he k o ?_ oz
    by_cases e:k=c+n
    ·rw[e,hl]at oz;cases oz
    ·omega
  |true=>
   obtain⟨o,ty,row,arr,g1,g2,g3,g4,g5,g6,g7,g8,g9⟩:=nK (c+n) (aX _) hl
   have hk:cx.R (s (c+n)).rows.length=none:=by rw[hR];exact QV n (by omega) _ (aX _)
   have hg:=Zjz (w:=w) hk row (B (c+n))
   refine⟨cx.add (s (c+n)).rows.length row (B (c+n)),B,zaw hm hk g4 g7,λr=>?_,λt ht he=>?_,⟨nX.cy.trans hg,nX.fr,nX.fg,λr x hr hv=>?_,nX.xb⟩,λi hi GV=>?_,λi j hi hj=>ov i j (by omega) (by omega)⟩
   ·simp only[ky,hl,true_and,g6,lA,List.length_singleton]
    by_cases e:r=(s (c+n)).rows.length
    ·subst e
     rw[if_pos ⟨aX _,Nat.lt_succ_self _⟩]
     simp[Ctx.add,aV]
    ·rw[if_neg (by omega)]
     simp only[Ctx.add,if_neg e];exact hR r
   ·simp only[jd,hl,true_and,g1,aW]
    split
    ·rename_i tK
     rw[g8 t tK,g5]
     obtain⟨e,q1,_⟩:=g4.cells
     exact⟨row,(Ctx.iZ _ _ _ _).1,by simp[Ctx.add],by rw[q1];simp[ai.l],by simp[(Ctx.iZ _ _ _ _).2]⟩
    ·rename_i tK
     refine wX hg (hE t ht λk o' uV oz dx=>?_)
     by_cases e:k=c+n
     ·subst e;rw[g1]at dx;cases dx;exact tK
     ·exact he k o' (by omega) oz dx
   ·by_cases e:r=(s (c+n)).rows.length
    ·right;right
     rw[e];simp only[Ctx.add,if_true];exact g7.jF
    ·have pE:cx.R r=some x:=by simpa[Ctx.add,e]using hr
     have Ed:¬cx.V r:=by simpa[Ctx.add,e]using hv
     have:=nX.ob r x pE Ed
     simpa only[Ctx.add,if_neg e]using this
   ·obtain⟨o',t',ao,iJ,f1,f2,f3,f4,f5,f6,f7,f8,f9⟩:=nK i (by omega) GV
    refine⟨o',t',ao,iJ,f1,f2,f3,f4,f5,f6,⟨f7.jF,f7.lt,f7.here,f7.fg,λr x hr hv e'=>?_⟩,f8,f9⟩
    by_cases e:r=(s (c+n)).rows.length
    ·rw[e]at e'
     simp only[Ctx.add,if_true]at e'
     have:=ov (c+n) i (aX _) (by omega) hl GV e'
     omega
    ·exact f7.row r x (by simpa[Ctx.add,e]using hr) (by simpa[Ctx.add,e]using hv) (by simpa only[Ctx.add,if_neg e]using e')
section
variable {P:Program} {G:List bd} {N M:Nat} {ops:Array Oper} {s:Nat->St} {ks:Nat->List Nat} {val:Nat->D} (hc:U6 P G N M ops s ks val) (lW:QR G ops (s ops.size).env=true)
include hc lW
theorem yy {c0 :Ctx}{dt gb:Nat->Bool}{c d i:Nat}(hI:Inv2 P G N M ops s ks val c0 w0 dt a w c d)(ho:ops[i]? =some o)(h0:dt i=false)(h1:gb i=true)(h2: ∀k,k≠i->gb k=dt k)
    (MW: ∀e∈o.after,Region.binds .any e=true->dt e.on=true) {K:Act->World->Prop} {Q:Exit->Act->World->Prop} (hK: ∀a' w' c' d',Inv2 P G N M ops s ks val c0 w0 gb a' w' c' d'->K a' w'):wpOp P ops Q i K a w:=by
  have bh:=(Array.getElem?_eq_some_iff.1 ho).1
  have pV: ∀k,((Region.before ops).getD i 0).testBit k=true->dt k=true:=λk hk=>
    Sj (au:=λk=>dt k=true) hI.closed (λo' jo=>by rw[ho]at jo;cases jo;exact MW) hk
  have nW: ∀j k,dt j=true->((Region.before ops).getD j 0).testBit k=true->dt k=true:=λj k hj hk=>
    Sj (au:=λk=>dt k=true) hI.closed (hI.closed j hj) hk
  have tL: ∀j,gb j=true-> ∀(o:Oper),ops[j]? =some o-> ∀e∈o.after,Region.binds .any e=true->gb e.on=true:=by
    intro j hj o' jo e he hb
    have gu:dt e.on=true:=by
      by_cases e':j=i
      . subst e';rw[ho]at jo;cases jo;exact MW e he hb
      . rw[h2 j e']at hj;exact hI.closed j hj o' jo e he hb
    rw[h2 e.on (λe'=>by rw[e',h0]at gu;cases gu)]
    exact gu
  have Dr: ∀{x:Oper} {t:TypeId} {y:Operand},x.op= .load t y->kX G x.op=true:=λh=>by rw[h];rfl
  have hpu: ∀{x:Oper} {env:List (Nat×D)} {q:List Nat},lI env x.op=some q->kX G x.op=true:=λh=>by
    unfold kX;rw[(Z8j (G:=G) h).1];rfl
  have GU: ∀{x:Oper} {t:TypeId},x.op= .alloc t->kX G x.op=true:=λh=>by rw[h];rfl
  obtain⟨cx,B,hm,hR,hE,nX,nK,ov⟩:=hI.ctx
  have Fg:dt d=false:=by
    cases hl:dt d with
    |false=>rfl
    | true=>
      obtain⟨o',t,_,_,g1,_,g3,_⟩:=nK d (aX _) hl
      have:=hI.wr _ g1
      rw[GU g3]at this;cases this
  have hid:i<=d\/(d<i/\(∃t,o.guard=none/\o.op= .alloc t)/\ ∀u,o.dst=some u-> ∀k o',k≠i->ops[k]? =some o'->o'.dst≠some u):=by
    by_cases h:i<=d
    . exact .inl h
    . right
      have Bs:ops[d]? =some ops[d]:=aU (by omega)
      have:=(Q7 lW (show d<i by omega) Bs ho).2
      rcases this with⟨hq,_⟩|hb|hb|hb
      . rw[hI.wr _ Bs]at hq;cases hq
      . have:=pV d hb
        rw[Fg]at this;cases this
      . rcases QP Bs ho hb with⟨t,b,t',b',z,r,r',ii,off,ma,iK,g1,g2,g3,_⟩|⟨q,g1,g2,g3,_⟩|⟨q,g1,g3,_⟩|⟨_,_,_,_,_,_,_,_,_,g1,g2,g3,_⟩|⟨_,_,_,_,_,_,_,_,g1,g2,g3,_⟩
        . have:=Dr g3
          rw[hI.wr _ Bs]at this;cases this
        . have:=hpu g3
          rw[hI.wr _ Bs]at this;cases this
        . have:=hpu g3
          rw[hI.wr _ Bs]at this;cases this
        . have:=Dr g3
          rw[hI.wr _ Bs]at this;cases this
        . have:=Dr g3
          rw[hI.wr _ Bs]at this;cases this
      . exact⟨by omega,hb⟩
  have Wa:=hI.cd
  have HJ:=hI.dn
  have jh:cx.base<=w.heap.size:=by rw[nX.cy.base];exact Nat.le_trans hI.fx nX.fr.size
  have seen: ∀k o' t,k<i->ops[k]? =some o'->o'.dst=some t->t∈o.looksAt ops->dt k=true:=by
    intro k o' t hk jo hd ht
    rcases(Q7 lW hk jo ho).1 with tM|hb
    . exact((FR tM).2.1 hd ht).elim
    . exact pV _ hb
  have Da: ∀k o' t,d<=k->dt k=true->ops[k]? =some o'->t∈o.looksAt ops->i<=d->o'.dst≠some t:=by
    intro k o' t hk hl jo ht hid hd
    have nY:i<k:=by
      by_cases e:k=i
      . rw[e,h0]at hl;cases hl
      . omega
    rcases(Q7 lW nY ho jo).1 with tM|hb
    . exact(FR tM).2.2 hd ht
    . have:=nW _ _ hl hb
      rw[h0]at this;cases this
  rcases hid with hid|⟨hdi,⟨t0,hg0,ho0⟩,J6⟩
  rotate_left
  ·
    obtain⟨hks,row,arr,hA,hv,db⟩:=(hc.mA i o ho).al t0 hg0 ho0
    unfold wpOp
    simp only[ho]
    have hw:Region.wanted o (yielded ops a.tmps)=true:=by simp [Region.wanted,hg0]
    rw[if_pos hw]
    refine Gb (hA.run a.eval w) ?_
    have hmn:=Zt8 hm (.cells arr row.ty)
    have u9:=Qse hm (.cells arr row.ty)
    have hn:jN [] cx w cx (w.alloc (.cells arr row.ty)):=lL.toK ⟨hmn,u9,Fr.alloc _ w _,λb hb=> .inl hb,λr row hr v=> .inl ⟨⟨row,hr⟩,v,rfl⟩⟩
    refine hK _ _ c d ⟨hI.cd,hI.dn,λk hk=>by rw[h2 k (by omega)];exact hI.pre k hk,hI.quiet,hI.wr,tL,?_,?_,hI.fx,hI.gv,cx,λk=>if k=i then w.heap.size else B k,hmn,λr=> ?_,λt ht he=> ?_,nX.step (ks:=[]) (λk hk=>by simp [da]at hk) hI.gv hn,λk hdk hl=> ?_,λk j hk hj oz Hr e=> ?_⟩
    . cases hd:o.dst<;>simp [Act.put]<;>exact hI.size
    . first|exact lX.put (hI.defers.step hm hn.fr)|exact lX.put (hI.defers.step hm hn.toW.fr)
    . rw[hR,Sp (λk hk=>h2 _ (by omega))]
    . rw[So (λk hk=>h2 _ (by omega))]
      refine U7 hI.size (λu=>hc.dst i o u ho) (λhd=>(he i o (by omega) h1 ho hd).elim) (λhd=> ?_)
      exact wX u9 (hE t (λk o' hk hl dx=>ht k o' hk (by rw[h2 k (by omega)];exact hl) dx) (λk o' hk hl dx=>he k o' hk (by rw[h2 k (λe'=>by rw[e',h0]at hl;cases hl)];exact hl) dx))
    . by_cases e:k=i
      . subst e
        simp only[if_true]
        exact⟨o,t0,row,arr,ho,hg0,ho0,hA,hv,db,⟨nX.fr.size,by rw[Qzk];omega,UB w _,λhb=>by have:=(hm.fg _ hb).1;omega,λr ao hr Ed e=>by have:=hm.lt hr Ed;omega⟩,λu hu=>zV hu (bM (hc.dst k o u ho hu) hI.size),J6⟩
      . simp only[if_neg e]
        rw[h2 k e]at hl
        exact(nK k hdk hl).dv hn (Ne.symm e) ho
    . have key: ∀k,d<=k->gb k=true->k≠i->B k<w.heap.size:=λk hk oz e=>by
        rw[h2 k e]at oz
        obtain⟨_,_,_,_,_,_,_,_,_,_,g7,_⟩:=nK k hk oz
        exact g7.lt
      by_cases e1:k=i<;>by_cases e2:j=i
      . rw[e1,e2]
      . simp only[if_pos e1,if_neg e2]at e
        have:=key j hj Hr e2;omega
      . simp only[if_neg e1,if_pos e2]at e
        have:=key k hk oz e1;omega
      . simp only[if_neg e1,if_neg e2]at e
        exact ov k j hk hj (by rw[<-h2 k e1];exact oz) (by rw[<-h2 j e2];exact Hr) e
  by_cases pF:c<=i
  . by_cases e:i=d
    ·
      subst e
      have iR: ∀k o',c<=k->k<i->ops[k]? =some o'->dt k=true\/Mn G ops (s ops.size).env k i=true:=λk o' nb pW dx=>by
        rcases(Q7 lW pW dx ho).2 with⟨_,hq⟩|hb|hb|⟨⟨t4,_,g4⟩,_⟩
        . rw[hI.wr _ ho]at hq;cases hq
        . exact .inl (pV _ hb)
        . exact .inr hb
        . have:=hI.wr _ ho
          rw[GU g4]at this;cases this
      have hnr: ∀k o',c<=k->k<i->ops[k]? =some o'->Mn G ops (s ops.size).env k i=true->(s (k+1)).rows=(s k).rows:=λk o' nb pW dx hb=>by
        rcases QP dx ho hb with⟨t,b,t',b',z,r,r',ii,off,ma,iK,g1,g2,g3,g4,g5,g6,g7,g8,g9⟩|⟨q,g1,g2,g3,g4,_⟩|⟨q,g1,g3,g4⟩|⟨t,b,r,ii,off,_,_,_,_,g1,g2,g3,g5,g7,_⟩|⟨t,b,r,ii,off,_,_,_,g1,g2,g3,g5,g7,_⟩
        . exact((hc.mA k o' dx).ld t b r ii off g1 g3 (DY hc g5 g7 (aX _) (by omega))).2.1
        . exact((hc.mA k o' dx).pu q g1 (Zdz hc g3 g4 (aX _) (by omega))).2.1
        . exact((hc.mA k o' dx).pu q g1 (Zdz hc g3 (λa ha=>(g4.1 a ha).1) (aX _) (by omega))).2.1
        . exact((hc.mA k o' dx).ld t b r ii off g1 g3 (DY hc g5 g7 (aX _) (by omega))).2.1
        . exact((hc.mA k o' dx).ld t b r ii off g1 g3 (DY hc g5 g7 (aX _) (by omega))).2.1
      have db: ∀r,cx.R r=(s i).rows.getD r none:=λr=>by
        rw[hR,Zc0 hc hI.quiet HJ (by omega) (λk hk=>by
          have dx:ops[c+k]? =some ops[c+k]:=aU (by omega)
          rcases iR (c+k) _ (by omega) (by omega) dx with h|h
          . exact .inl h
          . exact .inr (hnr (c+k) _ (by omega) (by omega) dx h)),show c+(i-c)=i by omega]
      have sS: ∀t,(∀k o',k<i->dt k=false->ops[k]? =some o'->o'.dst≠some t)->(∀k o',i<=k->dt k=true->ops[k]? =some o'->o'.dst≠some t)->Rep cx w (look (s i).env t) (a.tmps.getD t undef):=λt ht he=>by
        have:=hE t (λk o' hk=>ht k o' (by omega)) he
        rwa [Zjk hc hI.quiet HJ (by omega) (λk o' hk dx hd=>by
          cases hl:dt (c+k) with
          |true=>rfl
          |false=>exact(ht _ _ (by omega) hl dx hd).elim),show c+(i-c)=i by omega]at this
      refine qaw (M:=M) ho hm jh db (λt ht=>sS t (λk o' hk hl dx hd=>by rw[seen k o' t hk dx hd ht]at hl;cases hl) (λk o' hk hl dx=>Da k o' t hk hl dx ht (aX _))) (hc.op i o ho) λv w' c' hM hn j7 hv=> ?_
      obtain⟨d',g1,g2,g3,g4⟩:=MV G ops _ (i+1) rfl (by omega)
      have dv: ∀k o' t b r ii off row,k<i->ops[k]? =some o'->dt k=false->o'.guard=none->o'.op= .load t (.tmp b)->kT ops k b=true->look (s ops.size).env b= .ptr r ii off->(s i).rows.getD r none=some row->(ks i=[]/\(s (i+1)).rows.getD r none=some row)\/(QS ops (s ops.size).env k o'/\(s (i+1)).rows.getD r none=some (row.kill (ks i))):=by
        intro k o' t b r ii off row hk dx hl q1 q2 q3 q4 q5
        rcases(Q7 lW hk dx ho).2 with⟨_,hq⟩|hb|hb|⟨⟨t4,_,g4⟩,_⟩
        rotate_right
        . have:=hI.wr _ ho
          rw[GU g4]at this;cases this
        . rw[hI.wr _ ho]at hq;cases hq
        . rw[pV _ hb]at hl;cases hl
        . rcases QP dx ho hb with⟨t1,b1,t',b',z,r1,r',QW,Db,ma,iK,p1,p2,p3,p4,p5,p6,p7,p8,p9⟩|⟨q,p1,p2,p3,_⟩|⟨q,p1,p3,_⟩|⟨t1,b1,r1,QW,Db,args,dj,x0,l0,p1,p2,p3,p4,p5,p6,p7,p8,p9⟩|⟨t1,b1,r1,QW,Db,args,dj,td,p1,p2,p3,p4,p5,p6,p7,p8,p9⟩
          . rw[q2]at p3;cases p3
            rw[q4]at p7;cases p7
            obtain⟨f1,f2⟩:=(hc.mA i o ho).st t' b' z r' ma iK p2 p4 (DY hc p6 p8 (by omega) (by omega))
            exact .inl ⟨f1,by rw[f2 r p9];exact q5⟩
          . rw[q2]at p3;simp [lI,rC,cq,q4]at p3
          . rw[q2]at p3;simp [lI,rC,cq,q4]at p3
          . obtain⟨f1,f2⟩:=(hc.mA i o ho).ap args dj x0 l0 p2 p6 p7 (by rw[DZ hc p8 (Zdt p9) (by omega) (by omega)];exact p9)
            exact .inl ⟨f1,f2 r row q5⟩
          . refine .inr ⟨⟨td,p7,p8,p9⟩,(hc.mA i o ho).ap2 args dj p2 p6 r row q5 ?_⟩
            have e1:=DY hc q3 q4 (show k<=i by omega) (by omega)
            have e2:=DY hc q3 q4 (show k<=i+1 by omega) (by omega)
            rw[hc.env i o b ho,if_neg (JA q3 (by omega) ho),BD,e1]at e2
            cases hb:da r (ks i) with
            |false=>rfl
            |true=>simp [D.j4,D.kill,D.fc,hb]at e2
      have Hs: ∀k o' q,k<i->ops[k]? =some o'->dt k=false->lI (s ops.size).env o'.op=some q->ks i=[]\/JB ops (s ops.size).env k o' q:=by
        intro k o' q hk dx hl hq
        rcases(Q7 lW hk dx ho).2 with⟨_,FA⟩|hb|hb|⟨⟨t4,_,g4⟩,_⟩
        rotate_right
        . have:=hI.wr _ ho
          rw[GU g4]at this;cases this
        . rw[hI.wr _ ho]at FA;cases FA
        . rw[pV _ hb]at hl;cases hl
        . rcases QP dx ho hb with⟨t1,b1,t',b',z,r1,r',QW,Db,ma,iK,p1,p2,p3,p4,p5,p6,p7,p8⟩|⟨q,p1,p2,p3,p4,p5⟩|⟨q',p1,p3,p4⟩|⟨t1,b1,r1,QW,Db,args,dj,x0,l0,p1,p2,p3,p4,p5,_⟩|⟨t1,b1,r1,QW,Db,args,dj,td,p1,p2,p3,p4,p5,_⟩
          rotate_right
          . rw[p3]at hq;simp [lI,rC,cq,p5]at hq
          rotate_right
          . rw[p3]at hq;simp [lI,rC,cq,p5]at hq
          . rw[p3]at hq;simp [lI,rC,cq,p7]at hq
          . rcases p5 with⟨t',b',z,r',ma,iK,p5,p6,p7⟩|⟨f,args,dj,p5,p6⟩
            . exact .inl ((hc.mA i o ho).st t' b' z r' ma iK p2 p5 (DY hc p6 p7 (by omega) (by omega))).1
            . exact .inl ((hc.mA i o ho).cl f args dj p2 p5 p6)
          . rw[p3]at hq;cases hq
            exact .inr p4
      have FB: ∀k,c<=k->k<i->ks k=[]:=λk nb pW=>by
        have dx:ops[k]? =some ops[k]:=aU (by omega)
        exact(V0 (hc.op k _ dx) (hI.quiet k _ nb pW dx)).1
      have QX: ∀t,(∀k o,k<i+1->gb k=false->ops[k]? =some o->o.dst≠some t)->(∀k o,i+1<=k->gb k=true->ops[k]? =some o->o.dst≠some t)->Rep c' w' (look (s (i+1)).env t) ((a.put o.dst v).tmps.getD t undef):=by
        intro t ht he
        rw[hc.env i o t ho]
        refine U7 hI.size (λu=>hc.dst i o u ho) (λhd=>by rw[if_pos hd];exact hv) (λhd=> ?_)
        rw[if_neg hd,BD]
        refine wX hn.cy (Wm (sS t (λk o' hk hl dx=> ?_) (λk o' hk hl dx=> ?_)))
        . exact ht k o' (by omega) (by rw[h2 k (by omega)];exact hl) dx
        . have gu:k≠i:=λe'=>by rw[e',h0]at hl;cases hl
          exact he k o' (by omega) (by rw[h2 k gu];exact hl) dx
      refine hK _ w' (i+1) d' ⟨g1,g2,λk hk=> ?_,g3,g4,tL,?_,?_,hI.fx,hI.gv,by
        have:=QU hc (c0:=c0) (w0:=w0) (w:=w') (dt:=gb) (a:=a.put o.dst v) (c:=i+1) (d:=d') g3 g2 ⟨c',B,hn.mem,j7,QX,nX.step hM hI.gv hn,λk hk oz=>(nK k (by omega) (by rw[<-h2 k (by omega)];exact oz)).dv hn (by omega) ho,λk j hk hj oz Hr e=>ov k j (by omega) (by omega) (by rw[<-h2 k (by omega)];exact oz) (by rw[<-h2 j (by omega)];exact Hr) e⟩ (d'-(i+1)) (by omega)
        rwa [show i+1+(d'-(i+1))=d' by omega]at this⟩
      . by_cases e' : k=i
        . rw[e'];exact .inl h1
        . rw [h2 k e']
          cases hl:dt k with
          |true=>exact .inl rfl
          | false =>
            right
            by_cases V3:k<c
            . rcases hI.pre k V3 with h|h
              . rw[hl]at h;cases h
              . rcases h with h|⟨o',q,q1,q2,q3,q4,q8⟩
                rotate_left
                . rcases q8 with q8|q8
                  rotate_left
                  . exact .inr ⟨o',q,q1,q2,q3,q4, .inr q8⟩
                  rcases Hs k o' q (by omega) q1 hl q3 with f1|f1
                  rotate_left
                  . exact .inr ⟨o',q,q1,q2,q3,q4, .inr f1⟩
                  refine .inr ⟨o',q,q1,q2,q3,q4, .inl λk' nb pW=> ?_⟩
                  by_cases J8:k'<c
                  . exact q8 k' nb J8
                  . by_cases DH:k'<i
                    . exact FB k' (by omega) DH
                    . rw[show k'=i by omega];exact f1
                obtain⟨o',t,b,r,ii,off,row,ao,q1,q2,q3,q4,q5,q6,q7,q8⟩:=h
                have rr:r<(s c).rows.length:=by
                  by_cases hh:r<(s c).rows.length
                  . exact hh
                  . simp only[aV,aJ (show(s c).rows.length<=r by omega)]at q7;cases q7
                have iF:=J2 hc.toChain hI.quiet HJ (aX c) pF (aX i) rr
                rcases dv k o' t b r ii off ao (by omega) q1 hl q2 q3 q4 q5 (by rw[iF];exact q7) with⟨f1,f2⟩|⟨f1,f2⟩
                . rcases q8 with⟨e8,q8⟩|q8
                  . refine .inl ⟨o',t,b,r,ii,off,row,ao,q1,q2,q3,q4,q5,q6,f2, .inl ⟨e8,λk' nb pW=> ?_⟩⟩
                    by_cases J8:k'<c
                    . exact q8 k' nb J8
                    . by_cases DH:k'<i
                      . exact FB k' (by omega) DH
                      . rw[show k'=i by omega];exact f1
                  . exact .inl ⟨o',t,b,r,ii,off,row,ao,q1,q2,q3,q4,q5,q6,f2, .inr ⟨q8.1,q8.2.elim λL hL=>⟨L,hL.1,λkk hk=>(hL.2 kk hk).elim λj hj=>⟨j,hj.1,by omega,hj.2.2⟩⟩⟩⟩
                . refine .inl ⟨o',t,b,r,ii,off,row,_,q1,q2,q3,q4,q5,q6,f2, .inr ⟨f1,?_⟩⟩
                  rcases q8 with⟨e8,_⟩|⟨_,L,e8,hL⟩
                  . exact⟨[ks i],by rw[e8];rfl,λkk hk=>⟨i,by omega,by omega,List.mem_singleton.1 hk⟩⟩
                  . refine⟨L++[ks i],by rw[List.foldl_append,<-e8];rfl,λkk hk=> ?_⟩
                    rcases List.mem_append.1 hk with hk|hk
                    . obtain⟨j,j1,j2,j3⟩:=hL kk hk
                      exact⟨j,j1,by omega,j3⟩
                    . exact⟨i,by omega,by omega,List.mem_singleton.1 hk⟩
            . have dx:ops[k]? =some ops[k]:=aU (by omega)
              rcases iR k _ (by omega) (by omega) dx with h|h
              . rw[hl]at h;cases h
              . have go: ∀t b r ii off,ops[k].guard=none->ops[k].op= .load t (.tmp b)->kT ops k b=true->look (s ops.size).env b= .ptr r ii off->QT ops s ks k (i+1):=by
                  intro t b r ii off p1 p3 p5 p7
                  obtain⟨row,cz⟩:=((hc.mA k _ dx).ld t b r ii off p1 p3 (DY hc p5 p7 (aX _) (by omega))).2.2.1
                  have rr:r<(s k).rows.length:=by
                    by_cases hh:r<(s k).rows.length
                    . exact hh
                    . simp only[aV,aJ (show(s k).rows.length<=r by omega)]at cz;cases cz
                  have iF:=J2 hc.toChain hI.quiet HJ (show c<=k by omega) (show k<=i by omega) (aX i) rr
                  rcases dv k _ t b r ii off row (by omega) dx hl p1 p3 p5 p7 (by rw[iF];exact cz) with⟨f1,f2⟩|⟨f1,f2⟩
                  rotate_left
                  . exact .inl ⟨_,t,b,r,ii,off,row,_,dx,p1,p3,p5,p7,cz,f2, .inr ⟨f1,[ks i],rfl,λkk hk=>⟨i,by omega,by omega,List.mem_singleton.1 hk⟩⟩⟩
                  refine .inl ⟨_,t,b,r,ii,off,row,row,dx,p1,p3,p5,p7,cz,f2, .inl ⟨rfl,λk' nb pW=> ?_⟩⟩
                  by_cases DH:k'<i
                  . exact FB k' (by omega) DH
                  . rw[show k'=i by omega];exact f1
                rcases QP dx ho h with⟨t,b,t',b',z,r,r',ii,off,ma,iK,p1,p2,p3,p4,p5,p6,p7,p8,p9⟩|⟨q,p1,p2,p3,p4,p5⟩|⟨q,p1,p3,p4⟩|⟨t,b,r,ii,off,_,_,_,_,p1,p2,p3,p5,p7,_⟩|⟨t,b,r,ii,off,_,_,_,p1,p2,p3,p5,p7,_⟩
                rotate_right
                . exact go t b r ii off p1 p3 p5 p7
                rotate_left 2
                rotate_left
                . exact go t b r ii off p1 p3 p5 p7
                rotate_right
                . exact .inr ⟨_,q,dx,p1,p3,λa ha=>(p4.1 a ha).1, .inr p4⟩
                rotate_left
                . rcases Hs k _ q (by omega) dx hl p3 with f1|f1
                  rotate_left
                  . exact .inr ⟨_,q,dx,p1,p3,p4, .inr f1⟩
                  refine .inr ⟨_,q,dx,p1,p3,p4, .inl λk' nb pW=> ?_⟩
                  by_cases DH:k'<i
                  . exact FB k' (by omega) DH
                  . rw[show k'=i by omega];exact f1
                exact go t b r ii off p1 p3 p5 p7
      . cases hd:o.dst<;>simp [Act.put]<;>exact hI.size
      . first|exact lX.put (hI.defers.step hm hn.fr)|exact lX.put (hI.defers.step hm hn.toW.fr)
    ·
      have HH:i<d:=by omega
      have hq:=hI.quiet i o pF HH ho
      have MX:=VZ hq
      have MY: ∀t∈o.looksAt ops,Rep cx w (look (s i).env t) (a.tmps.getD t undef):=λt ht=>by
        have HI : ∀n,c+n<=d->jd ops s val dt c n t=if c+n<=i then look (s (c+n)).env t else look (s i).env t:=by
          intro n
          induction n with
          |zero=>intro _;simp only[jd,aB];rw[if_pos pF]
          | succ n ih=>
            intro hn
            obtain⟨ok,dx⟩: ∃ok,ops[c+n]? =some ok:=⟨_,aU (show c+n<ops.size by omega)⟩
            have ih:=ih (by omega)
            simp only[jd,dx,aW]
            by_cases hk:c+n<i
            . have hA:c+(n+1)<=i:=by omega
              have Sq:c+n<=i:=by omega
              rw[if_pos hA,show c+(n+1)=c+n+1 by omega,hc.toChain.Ef dx (hI.quiet _ _ (by omega) (by omega) dx) t]
              rw[if_pos Sq]at ih
              by_cases hd:ok.dst=some t
              . rw[if_pos ⟨seen _ _ t hk dx hd ht,hd⟩,if_pos hd]
              . rw[if_neg (λg=>hd g.2),if_neg hd,ih]
            . have HK: ¬(dt (c+n)=true/\ok.dst=some t):=by
                rintro⟨g1,g2⟩
                by_cases e':c+n=i
                . rw[e',h0]at g1;cases g1
                . have nY:i<c+n:=by omega
                  rcases(Q7 lW nY ho dx).1 with tM|hb
                  . exact(FR tM).2.2 g2 ht
                  . have:=nW _ _ g1 hb
                    rw[h0]at this;cases this
              have hA: ¬c+(n+1)<=i:=by omega
              rw[if_neg HK,ih,if_neg hA]
              split
              . rw[show c+n=i by omega]
              . rfl
        have:=hE t (λk o' hk hl dx hd=>by rw[seen k o' t (by omega) dx hd ht]at hl;cases hl) (λk o' hk hl dx=>Da k o' t hk hl dx ht hid)
        rw[HI (d-c) (by omega),if_neg (by omega)]at this
        exact this
      have hlen: ∀k l,c<=k->k<=l->l<=d->(s k).rows.length<=(s l).rows.length:=λk l h1 h2 h3=>J1 hc.toChain hI.quiet hI.dn h1 h2 h3
      have iw: ∀k l,c<=k->k<=l->l<=d-> ∀r,r<(s k).rows.length->(s l).rows.getD r none=(s k).rows.getD r none:=λk l h1 h2 h3 r hr=>J2 hc.toChain hI.quiet hI.dn h1 h2 h3 hr
      have Bt: ∀n,c+n<=d-> ∀r,r<(s i).rows.length-> ∀row,ky s dt c n r=some row->(s i).rows.getD r none=some row:=by
        intro n
        induction n with
        | zero=>
          intro _ r hr row h
          simp only[ky]at h
          by_cases V4:r<(s c).rows.length
          . rw[iw c i (aX _) pF (by omega) r V4];exact h
          . simp only[aV,aJ (show(s c).rows.length<=r by omega)]at h;cases h
        | succ n ih=>
          intro hn r hr row h
          simp only[ky]at h
          split at h
          . rename_i g
            obtain⟨g1,g2,g3⟩:=g
            have V5:c+n<i:=by
              by_cases mL:c+n<i
              . exact mL
              . by_cases e':c+n=i
                . rw[e',h0]at g1;cases g1
                . have:=hlen i (c+n) pF (by omega) (by omega);omega
            rw[iw (c+n+1) i (by omega) (by omega) (by omega) r g3];exact h
          . exact ih (by omega) r hr row h
      have Bu: ∀n,c+n<=d-> ∀r,(s i).rows.length<=r->r<(s (i+1)).rows.length->ky s dt c n r=none:=by
        intro n
        induction n with
        | zero=>
          intro _ r h1 h2
          have:=hlen c i (aX _) pF (by omega)
          simp only[ky,aV,aJ (show(s c).rows.length<=r by omega),Option.getD_none]
        | succ n ih=>
          intro hn r h1 h2
          simp only[ky]
          rw[if_neg]
          . exact ih (by omega) r h1 h2
          . rintro⟨g1,g2,g3⟩
            by_cases e':c+n=i
            . rw[e',h0]at g1;cases g1
            . by_cases mL:c+n<i
              . have:=hlen (c+n+1) i (by omega) (by omega) (by omega);omega
              . have:=hlen (i+1) (c+n) (by omega) (by omega) (by omega);omega
      have oW:mf cx (s i).rows:=λr row ao g1 g2=>by
        have hr:r<(s i).rows.length:=by
          by_cases h:r<(s i).rows.length
          . exact h
          . simp only[aV,aJ (show(s i).rows.length<=r by omega)]at g2;cases g2
        rw[hR]at g1
        have:=Bt (d-c) (by omega) r hr row g1
        rw[this]at g2;exact Option.some.inj g2
      have fin: ∀v w' c',J0 cx w (s i).rows (s (i+1)).rows c' w'->Rep c' w' (val i) v->K (a.put o.dst v) w':=by
        intro v w' c' hn hv
        refine hK _ w' c d ⟨hI.cd,hI.dn,λk hk=>by rw[h2 k (by omega)];exact hI.pre k hk,hI.quiet,hI.wr,tL,?_,?_,hI.fx,hI.gv,c',B,hn.mem,λr=> ?_,λt ht he=> ?_,nX.step (ks:=[]) (λk hk=>by simp [da]at hk) hI.gv hn.toW.toK,λk hk oz=>(nK k hk (by rw[<-h2 k (by omega)];exact oz)).dv hn.toW.toK (by omega) ho,λk j hk hj oz Hr e=>ov k j hk hj (by rw[<-h2 k (by omega)];exact oz) (by rw[<-h2 j (by omega)];exact Hr) e⟩
        . cases hd:o.dst<;>simp [Act.put]<;>exact hI.size
        . first|exact lX.put (hI.defers.step hm hn.fr)|exact lX.put (hI.defers.step hm hn.toW.fr)
        . rw[hn.rows,hR,V2 pF h0 h1 h2 (d:=d) (λk nb pW=>hlen (i+1) k (by omega) (by omega) (by omega)) (by omega) (by omega)]
        . have hl: ∀k o',i<k->dt k=true->ops[k]? =some o'->o'.dst=some t->o.dst=some t->False:=by
            intro k o' nY hk dx MO V6
            rcases(Q7 lW nY ho dx).1 with tM|hb
            . exact(FR tM).1 V6 MO
            . have:=nW _ _ hk hb
              rw[h0]at this;cases this
          rw[V1 ho pF h0 h1 h2 hl (by omega)]
          have hold:=wX hn.cy (hE t (λk o' hk hl dx=>ht k o' hk (by rw[h2 k (by omega)];exact hl) dx) (λk o' hk hl dx=>he k o' hk (by rw[h2 k (by omega)];exact hl) dx))
          refine U7 hI.size (λu=>hc.dst i o u ho) (λhd=>by rw[if_pos hd];exact hv) (λhd=>by rw[if_neg hd];exact hold)
      have skip:val i= .dw []->(s (i+1)).rows=(s i).rows->K (a.put o.dst undef) w:=λe1 e2=>
        fin undef w cx ⟨hm,jc.refl _ _,Fr.refl _ _,λb hb=> .inl hb,λr=>by rw[e2,if_neg (by omega)],λ_ _=>⟨rfl,Iff.rfl⟩,λr g1 g2=>by rw[e2]at g2;omega⟩ (by rw[e1];exact Sr _ _)
      have run:pD P G M o (cq (s i).env) (s i).rows (ks i) (val i) (s (i+1)).rows->o.nd P a w K Q:=λhX=>by
        unfold pD at hX
        rw[MX]at hX
        refine hX.2.2 cx w a hm jh oW (λr g1 g2=>by rw[hR];exact Bu (d-c) (by omega) r g1 g2) (λx hx=> ?_) K Q fin
        cases x with
        | tmp t=>
          refine MY t ?_
          unfold Oper.looksAt
          exact eT _ (List.mem_filterMap.2 ⟨.tmp t,by simpa using hx,rfl⟩)
        | const v=>
          simp only[cq,Act.eval]
          cases hv:FT v with
          |none=>trivial
          |some d=>exact MZ hv cx w
        |global g=>trivial
        |func f=>exact J3 f
      have hG:=hc.op i o ho
      unfold wpOp
      simp only[ho]
      unfold nu at hG
      cases hg:o.guard with
      | none=>
        simp only[hg]at hG
        have hw:Region.wanted o (yielded ops a.tmps)=true:=by simp [Region.wanted,hg]
        rw[if_pos hw]
        exact run hG
      | some jw=>
        obtain⟨j,want⟩:=jw
        simp only[hg]at hG
        obtain⟨g,g2,hG⟩:=hG
        have hr:=MY g (by
          unfold Oper.looksAt
          refine eY _ ?_
          simp only[hg,g2];simp)
        rcases hG with⟨b,g3,g4⟩|⟨g3,_,e1,e2⟩
        rotate_left
        . rw[g3]at hr
          rw[if_neg (by rw[Ss (o:=o) hg g2 hr];simp)]
          exact skip e1 e2
        rw[g3]at hr
        have hw:=Su (o:=o) hg g2 hr
        by_cases e':b=want
        . rw[if_pos e']at g4
          rw[if_pos (by rw[hw];simpa using e')]
          exact run g4
        . rw[if_neg e']at g4
          rw[if_neg (by rw[hw];simpa using e')]
          exact skip g4.2.1 g4.2.2
  ·
    have VW:i<c:=by omega
    rcases hI.pre i VW with h|h
    . rw[h0]at h;cases h
    have QY: ∀b,kT ops i b=true->(∀k,i<k->k<c->ks k=[])->ks i=[]->look (s c).env b=look (s i).env b:=by
      intro b hb q8 q9
      have: ∀k,i<=k->k<=c->look (s k).env b=look (s i).env b:=by
        intro k
        induction k with
        |zero=>intro h1 _;rw[show i=0 by omega]
        | succ k ih=>
          intro h1 h2
          by_cases e':i=k+1
          . rw[e']
          . have dx:ops[k]? =some ops[k]:=aU (by omega)
            rw[hc.env k _ b dx,if_neg (JA hb (by omega) dx)]
            by_cases e2:k=i
            . rw[e2,q9,oC]
            . rw[q8 k (by omega) (by omega),oC];exact ih (by omega) (by omega)
      exact this c (by omega) (aX _)
    have oq: ∀b,kT ops i b=true->b∈o.looksAt ops->Rep cx w (look (s c).env b) (a.tmps.getD b undef):=λb hnb Zz=>by
      have:=hE b (λk o' hk hl dx hd=>by
        by_cases V5:k<i
        . rw[seen k o' b V5 dx hd Zz]at hl;cases hl
        . exact JA hnb (by omega) dx hd) (λk o' hk hl dx=>Da k o' b hk hl dx Zz hid)
      rwa [Z07 hc (λk o' hk dx hd=>(JA hnb (by omega) dx hd).elim)]at this
    obtain ⟨q2,q8,hN,CV⟩:o.guard=none/\((∀k,i<k->k<c->ks k=[])\/ ∀t,o.dst=some t->kT ops (i+1) t=true/\uL (look (s ops.size).env t)=true)/\pI P o (cq (s c).env) (s c).rows (val i) (s c).rows/\ ∀x∈o.op.operands,Rep cx w (cq (s c).env x) (a.eval x):=by
      rcases h with⟨o',t0,b,r,ii,off,row,ao,q1,q2,q3,q4,q5,q6,q7,q8⟩|⟨o',q,q1,q2,q3,q4,q8⟩
      . rw [ho]at q1;cases q1
        have hpc:look (s c).env b= .ptr r ii off:=DY hc q4 q5 (by omega) (by omega)
        have hpi:look (s i).env b= .ptr r ii off:=DY hc q4 q5 (by omega) (by omega)
        have sU:=(hc.mA i o ho).ld t0 b r ii off q2 q3 hpi
        have eh:cq (s c).env (.tmp b)= .ptr r ii off:=by simp [cq,hpc]
        have q9:((∀k,i<k->k<c->ks k=[])\/ ∀t,o.dst=some t->kT ops (i+1) t=true/\uL (look (s ops.size).env t)=true)/\pI P o (cq (s c).env) (s c).rows (val i) (s c).rows:=by
          rcases q8 with⟨e8,q8⟩|⟨⟨td,d1,d2,d3⟩,L,e8,hL⟩
          . subst e8
            exact⟨.inl q8,sU.2.2.2.1 (cq (s c).env) (s c).rows eh (by rw[q6,q7])⟩
          . refine⟨.inr λt ht=>by rw[d1]at ht;cases ht;exact⟨d2,QO d3⟩,sU.2.2.2.2 (cq (s c).env) (s c).rows row L ?_ (λkk hk=> ?_) eh q6 (by rw[q7,e8])⟩
            rotate_left
            . obtain⟨j,j1,j2,rfl⟩:=hL kk hk
              have h5:=DZ hc d2 (QO d3) (aX _) (show i+1<=ops.size by omega)
              have h6:=hc.env i o td ho
              rw[if_pos d1,h5]at h6
              have g1:=DZ hc d2 (QO d3) (show i+1<=j by omega) (show j<=ops.size by omega)
              have g2:=DZ hc d2 (QO d3) (show i+1<=j+1 by omega) (show j+1<=ops.size by omega)
              have dx:ops[j]? =some ops[j]:=aU (by omega)
              rw[hc.env j _ td dx,if_neg (JA d2 (by omega) dx),BD,g1,Zsr d3]at g2
              rw[<-h6];exact g2
            have h5:=DZ hc d2 (QO d3) (aX _) (show i+1<=ops.size by omega)
            have h6:=hc.env i o td ho
            rw[if_pos d1]at h6
            rw[<-h6,h5];exact d3
        refine⟨q2,q9.1,q9.2,λx hx=> ?_⟩
        have jM:x= .tmp b:=by simpa [q3,Op.operands] using hx
        rw[jM]
        refine oq b q4 ?_
        unfold Oper.looksAt
        exact eT _ (List.mem_filterMap.2 ⟨.tmp b,by rw[q3];simp [Op.operands],rfl⟩)
      . rw [ho]at q1;cases q1
        have sU:=(hc.mA i o ho).pu q q2 (Zdz hc q3 q4 (aX _) (by omega))
        refine⟨q2,q8.imp id λg t ht=>⟨(g.2 t ht).1,(g.2 t ht).2⟩,sU.2.2 (cq (s c).env) (s c).rows (λx hx=> ?_),λy hy=> ?_⟩
        . cases x with
          | tmp b=>
            rcases q8 with q8|q8
            . exact QY b (q4 b (Z7b q3 hx)) q8 sU.1
            . obtain⟨g1,g2⟩:=q8.1 b (Z7b q3 hx)
              show look (s c).env b=look (s i).env b
              rw[DZ hc g1 g2 (by omega) (by omega),DZ hc g1 g2 (aX _) (by omega)]
          |_=>rfl
        . cases y with
          | tmp b=>
            refine oq b (q4 b (Z7b q3 hy)) ?_
            unfold Oper.looksAt
            exact eT _ (List.mem_filterMap.2 ⟨.tmp b,by simpa using hy,rfl⟩)
          | const v=>
            simp only[cq,Act.eval]
            cases hv:FT v with
            |none=>trivial
            |some d=>exact MZ hv cx w
          |global g=>trivial
          |func f=>exact J3 f
    have oW:mf cx (s c).rows:=λr' QC jC g1 g2=>by
      have hr:r'<(s c).rows.length:=by
        by_cases h:r'<(s c).rows.length
        . exact h
        . simp only[aV,aJ (show(s c).rows.length<=r' by omega)]at g2;cases g2
      rw[hR,Zl1 hc hI.quiet HJ hr (by omega),g2]at g1
      exact(Option.some.inj g1).symm
    have fin: ∀v w' c',J0 cx w (s c).rows (s c).rows c' w'->Rep c' w' (val i) v->K (a.put o.dst v) w':=by
      intro v w' c' hn hv
      refine hK _ w' c d ⟨Wa,HJ,λk hk=> ?_,hI.quiet,hI.wr,tL,?_,?_,hI.fx,hI.gv,c',B,hn.mem,λr'=> ?_,λt ht he=> ?_,nX.step (ks:=[]) (λk hk=>by simp [da]at hk) hI.gv hn.toW.toK,λk hk oz=>(nK k hk (by rw[<-h2 k (by omega)];exact oz)).dv hn.toW.toK (by omega) ho,λk j hk hj oz Hr e=>ov k j hk hj (by rw[<-h2 k (by omega)];exact oz) (by rw[<-h2 j (by omega)];exact Hr) e⟩
      . by_cases e':k=i
        . rw[e'];exact .inl h1
        . rw[h2 k e'];exact hI.pre k hk
      . cases hd:o.dst<;>simp [Act.put]<;>exact hI.size
      . first|exact lX.put (hI.defers.step hm hn.fr)|exact lX.put (hI.defers.step hm hn.toW.fr)
      . rw[hn.rows,hR,if_neg (by omega),Sp (λk hk=>h2 _ (by omega))]
      . rw [So (λk hk=>h2 _ (by omega))]
        refine U7 hI.size (λu=>hc.dst i o u ho) (λhd=> ?_) (λhd=> ?_)
        ·
          have mZ: ∀k o',i<k->ops[k]? =some o'->o'.dst=some t->dt k=false:=λk o' hk dx pn=>by
            cases hl:dt k with
            |false=>rfl
            | true=>
              rcases(Q7 lW hk ho dx).1 with tM|hb
              . exact((FR tM).1 hd pn).elim
              . have:=nW _ _ hl hb
                rw[h0]at this;cases this
          have Jag: ∀k o',i<k->k<c->ops[k]? =some o'->o'.dst≠some t:=λk o' nb pW dx pn=>
            ht k o' pW (by rw[h2 k (by omega)];exact mZ k o' nb dx pn) dx pn
          rw[Z07 hc (λk o' hk dx pn=>mZ _ o' (by omega) dx pn)]
          have: ∀k,i<k->k<=c->look (s k).env t=val i:=by
            rcases q8 with q8|q8
            rotate_left
            . intro k nb pW
              obtain⟨g1,g2⟩:=q8 t hd
              have:=hc.env i o t ho
              rw[if_pos hd]at this
              rw[<-this,DZ hc g1 g2 (by omega) (by omega),DZ hc g1 g2 (aX _) (by omega)]
            intro k
            induction k with
            |zero=>intro h;omega
            | succ k ih=>
              intro nb pW
              have dx:ops[k]? =some ops[k]:=aU (by omega)
              by_cases e':k=i
              . subst e'
                rw[ho]at dx
                rw[hc.env k o t ho,if_pos hd]
              . rw[hc.env k _ t dx,if_neg (Jag k _ (by omega) (by omega) dx),q8 k (by omega) (by omega),oC]
                exact ih (by omega) (by omega)
          rw[this c VW (aX _)]
          exact hv
        . refine wX hn.cy (hE t (λk o' hk hl dx pn=> ?_) (λk o' hk hl dx=>he k o' hk (by rw[h2 k (by omega)];exact hl) dx))
          by_cases e':k=i
          . subst e'
            rw[ho]at dx;cases dx
            exact hd pn
          . exact ht k o' hk (by rw[h2 k e'];exact hl) dx pn
    unfold wpOp
    simp only[ho]
    have hw:Region.wanted o (yielded ops a.tmps)=true:=by simp [Region.wanted,q2]
    rw[if_pos hw]
    exact hN.2 cx w a hm jh oW (λr' g1 g2=>by omega) CV K Q fin
theorem Zl2{c d:Nat}(hI:Inv2 P G N M ops s ks val c0 w0 dt a w c d)(iR:∀i,i<ops.size->dt i=true):∃cx,fi N M c0 w0 cx w (s ops.size) a:=by
 obtain⟨cx,B,hm,hR,hE,nX,nK,ov⟩:=hI.ctx
 have hd:d=ops.size:=by
  by_cases h:d<ops.size
  ·obtain⟨o',t,_,_,g1,_,g3,_⟩:=nK d (aX _) (iR d h)
   have:=hI.wr _ g1
   unfold kX at this
   rw[g3]at this;cases this
  ·have:=hI.dn;omega
 subst hd
 have Wa:=hI.cd
 have hl:∀k,k<ops.size-c->dt (c+k)=true:=λk hk=>iR _ (by omega)
 refine⟨cx,hm,λr=>?_,λt=>?_,hI.size,hI.defers,hI.fx,hI.gv,nX⟩
 ·rw[hR,Sl hc.toChain hI.quiet hI.dn (by omega) hl,show c+(ops.size-c)=ops.size by omega]
 ·have:=hE t (λk o hk h0 dx=>by rw[iR k (Array.getElem?_eq_some_iff.1 dx).1]at h0;cases h0) (λk o hk _ dx=>by have:=(Array.getElem?_eq_some_iff.1 dx).1;omega)
  rw[Sk hc.toChain hI.quiet hI.dn (by omega) hl]at this
  rwa [show c+(ops.size-c)=ops.size by omega]at this
theorem qz(hQ:∀c w a,fi N M c0 w0 c w (s ops.size) a->Q .normal a w):∀(fuel:Nat) (au:Array Bool) (a:Act) (w:World) (c d:Nat),au.size=ops.size->mM (λi=>au.getD i false) ops.size<=fuel->
 Inv2 P G N M ops s ks val c0 w0 (λi=>au.getD i false) a w c d->HL P .any ops Q fuel au a w:=by
 intro fuel
 have AL:∀(au:Array Bool) (i:Nat),au.size=ops.size->(i∈Region.ready .any ops au↔ ∃o,ops[i]?=some o/\au.getD i false=false/\∀e∈o.after,Region.binds .any e=true->au.getD e.on false=true):=by
  intro au i ft
  unfold Region.ready
  rw[gO,gP]
  constructor
  ·rintro⟨h1,h2⟩
   have ho:ops[i]?=some ops[i]:=aU h1
   simp only[ho,bA,aR,aE,bB]at h2
   refine⟨_,ho,?_,λe he hb=>?_⟩
   ·have hl:i<au.size:=by omega
    have:=h2.1
    simpa[aY,hl]using this
   ·have:=Array.all_eq_true'.1 h2.2 e he
    simpa[hb]using this
  ·rintro⟨o,ho,h1,h2⟩
   have bh:=(Array.getElem?_eq_some_iff.1 ho).1
   refine⟨bh,?_⟩
   simp only[ho,bA,aR,aE,bB]
   have hl:i<au.size:=by omega
   refine⟨by simpa[aY,hl]using h1,Array.all_eq_true'.2 λe he=>?_⟩
   cases hb:Region.binds .any e with
   |false=>rfl
   |true=>simpa[hb]using h2 e he hb
 have ki:∀(au:Array Bool),au.size=ops.size->Region.ready .any ops au=[]->∀i,i<ops.size->au.getD i false=true:=by
  intro au ft he i
  induction i using Nat.strongRecOn with
  |_ i ih=>
   intro hi
   cases hl:au.getD i false with
   |true=>rfl
   |false=>
    exfalso
    have ho:ops[i]?=some ops[i]:=aU hi
    have:i∈Region.ready .any ops au:=(AL au i ft).2 ⟨_,ho,hl,λe wV hb=>by
     have:=Zj9 lW ho e wV hb
     exact ih e.on this (by omega)⟩
    rw[he]at this;cases this
 induction fuel with
 |zero=>
  intro au a w c d ft Bv hI
  have iR:=V8 (dt:=λi=>au.getD i false) (Nat.le_zero.1 Bv)
  refine⟨?_,?_⟩
  ·rw[List.eq_nil_iff_forall_not_mem]
   intro i hi
   obtain⟨o,ho,h1,_⟩:=(AL au i ft).1 hi
   have:=iR i (Array.getElem?_eq_some_iff.1 ho).1
   rw[h1]at this;cases this
  ·obtain⟨cx,hs⟩:=Zl2 hc lW hI iR
   exact hQ cx w a hs
 |succ fuel ih=>
  intro au a w c d ft Bv hI
  refine⟨λhe=>?_,λi hi=>?_⟩
  ·obtain⟨cx,hs⟩:=Zl2 hc lW hI (ki au ft he)
   exact hQ cx w a hs
  ·obtain⟨o,ho,h1,h2⟩:=(AL au i ft).1 hi
   have bh:=(Array.getElem?_eq_some_iff.1 ho).1
   have r4:(au.setIfInBounds i true).getD i false=true:=by
    have hl:i<au.size:=by omega
    simp[aY,hl]
   have r5:∀k,k≠i->(au.setIfInBounds i true).getD k false=au.getD k false:=λk hk=>by
    rw[aQ,aZ (Ne.symm hk),<-aQ]
   refine yy hc lW (gb:=λk=>(au.setIfInBounds i true).getD k false) hI ho h1 r4 r5 h2 λa' w' c' d' Wb=>?_
   refine ih _ a' w' c' d' (by simpa using ft) ?_ Wb
   have:=V9 (dt:=λk=>au.getD k false) (gb:=λk=>(au.setIfInBounds i true).getD k false) h1 r4 r5 bh
   omega
end
theorem AL{au:Array Bool}(ft:au.size=ops.size):i∈Region.ready .any ops au↔ ∃o,ops[i]?=some o/\au.getD i false=false/\∀e∈o.after,Region.binds .any e=true->au.getD e.on false=true:=by
 unfold Region.ready
 rw[gO,gP]
 constructor
 ·rintro⟨h1,h2⟩
  have ho:ops[i]?=some ops[i]:=aU h1
  simp only[ho,bA,aR,aE,bB]at h2
  refine⟨_,ho,?_,λe he hb=>?_⟩
  ·have hl:i<au.size:=by omega
   have:=h2.1
   simpa[aY,hl]using this
  ·have:=Array.all_eq_true'.1 h2.2 e he
   simpa[hb]using this
 ·rintro⟨o,ho,h1,h2⟩
  have bh:=(Array.getElem?_eq_some_iff.1 ho).1
  refine⟨bh,?_⟩
  simp only[ho,bA,aR,aE,bB]
  have hl:i<au.size:=by omega
  refine⟨by simpa[aY,hl]using h1,Array.all_eq_true'.2 λe he=>?_⟩
  cases hb:Region.binds .any e with
  |false=>rfl
  |true=>simpa[hb]using h2 e he hb
theorem xz{r:Nat}:∀{l:List Nat} {k:Nat},r∉l->pos r l k=k+l.length
 |[],k,_=>rfl
 |x::l,k,h=>by
  simp only[List.mem_cons,not_or]at h
  simp only[pos]
  cases hb:Nat.beq x r with
  |true=>exact(h.1 (bE hb).symm).elim
  |false=>show pos r l (k+1)=_;rw[xz h.2];simp;omega
section
variable {p:List Nat} {ops:Array Oper} (hp:U8 p ops.size=true)
include hp
theorem U9:p.length=ops.size/\(∀i,i<ops.size->i∈p)/\(∀i∈p,i<ops.size)/\p.Nodup:=by
 unfold U8 at hp
 simp only[aE]at hp
 obtain⟨h1,h2,h3,h4⟩:=hp
 exact⟨bE h1,λi hi=>nN.1 (List.all_eq_true.1 h2 i (List.mem_range.2 hi)),λi hi=>lE (List.all_eq_true.1 h3 i hi),L3.1 h4⟩
theorem Ht(hi:i<ops.size):pos i p 0<ops.size/\p[pos i p 0]?=some i:=by
 obtain⟨h1,h2,h3,h4⟩:=U9 hp
 have:=Be (h2 i hi)
 exact⟨by have:=(List.getElem?_eq_some_iff.1 this).1;omega,this⟩
theorem Zj1(h:pos i p 0<ops.size):i<ops.size:=by
 obtain⟨h1,h2,h3,h4⟩:=U9 hp
 by_cases hm:i∈p
 ·exact h3 i hm
 ·rw[xz hm]at h;omega
theorem Qsa:(nj p ops).size=ops.size:=by
 obtain⟨h1,_⟩:=U9 hp
 simp[nj,h1]
theorem Va(hk:p[k]?=some i)(ho:ops[i]?=some o):(nj p ops)[k]?=some (Mp p o):=by
 have:ops.getD i default=o:=by
  have bh:=(Array.getElem?_eq_some_iff.1 ho).1
  have:=(Array.getElem?_eq_some_iff.1 ho).2
  simp[aY,bh,this]
 simp[nj,hk,ho]
theorem Zk7(tmps:Array Value)(j:Nat):yielded (nj p ops) tmps (pos j p 0)=yielded ops tmps j:=by
 by_cases hj:j<ops.size
 ·have ho:ops[j]?=some ops[j]:=aU hj
  have h1:=Va hp (Ht hp hj).2 ho
  simp only[yielded,h1,ho,aW]
  rfl
 ·have h1:ops[j]?=none:=gQ (by omega)
  have h2:(nj p ops)[pos j p 0]?=none:=by
   refine gQ ?_
   rw[Qsa hp]
   by_cases h:pos j p 0<ops.size
   ·exact(hj (Zj1 hp h)).elim
   ·omega
  simp only[yielded,h1,h2,Option.bind_none]
theorem Zom(tmps:Array Value):Region.wanted (Mp p o) (yielded (nj p ops) tmps)=Region.wanted o (yielded ops tmps):=by
 unfold Region.wanted Mp
 cases hg:o.guard with
 |none=>rfl
 |some jw=>obtain⟨j,w⟩:=jw;simp only[Zk7 hp]
theorem zz{K K':Act->World->Prop}(hi:i<ops.size)(hK:∀a w,K' a w->K a w)(h:wpOp P (nj p ops) Q (pos i p 0) K' a w):wpOp P ops Q i K a w:=by
 have ho:ops[i]?=some ops[i]:=aU hi
 have h1:=Va hp (Ht hp hi).2 ho
 unfold wpOp at h⊢
 simp only[ho]
 simp only[h1,Zom hp]at h
 split at h
 ·rename_i hw
  rw[if_pos hw]
  exact Wl (Q:=Q) hK h
 ·rename_i hw
  rw[if_neg hw]
  exact hK _ _ h
theorem Zrn:∀(fuel:Nat) (au fe:Array Bool) (a:Act) (w:World),au.size=ops.size->fe.size=ops.size->(∀i,i<ops.size->fe.getD (pos i p 0) false=au.getD i false)->
 HL P .any (nj p ops) Q fuel fe a w->HL P .any ops Q fuel au a w:=by
 have ft:=Qsa hp
 obtain⟨f1,f2,f3,f4⟩:=U9 hp
 have up:∀(au fe:Array Bool) (i:Nat),au.size=ops.size->fe.size=ops.size->(∀i,i<ops.size->fe.getD (pos i p 0) false=au.getD i false)->i∈Region.ready .any ops au->i<ops.size/\pos i p 0∈Region.ready .any (nj p ops) fe:=by
  intro au fe i h1 h2 h3 hi
  obtain⟨o,ho,g1,g2⟩:=(AL h1).1 hi
  have bh:=(Array.getElem?_eq_some_iff.1 ho).1
  refine⟨bh,(AL (by rw[h2,ft])).2 ⟨_,Va hp (Ht hp bh).2 ho,by rw[h3 i bh];exact g1,λe he hb=>?_⟩⟩
  simp only[Mp,gR]at he
  obtain⟨e',wV,rfl⟩:=he
  have:=g2 e' wV hb
  have J6:e'.on<ops.size:=by
   by_cases h:e'.on<ops.size
   ·exact h
   ·rw[aY,dif_neg (by omega)]at this;cases this
  show fe.getD (pos e'.on p 0) false=true
  rw[h3 _ J6];exact this
 have down:∀(au fe:Array Bool) (k:Nat),au.size=ops.size->fe.size=ops.size->(∀i,i<ops.size->fe.getD (pos i p 0) false=au.getD i false)->k∈Region.ready .any (nj p ops) fe->∃i,i∈Region.ready .any ops au:=by
  intro au fe k h1 h2 h3 hk
  obtain⟨o',jo,g1,g2⟩:=(AL (by rw[h2,ft])).1 hk
  have bh:=(Array.getElem?_eq_some_iff.1 jo).1
  rw[ft]at bh
  have Bf:p[k]?=some p[k]:=List.getElem?_eq_getElem (by omega)
  have hi:=f3 _ (fN Bf)
  have ho:ops[p[k]]?=some ops[p[k]]:=aU hi
  have QZ:pos p[k] p 0=k:=by
   have:=(Ht hp hi).2
   exact(List.getElem?_inj (by have:=(Ht hp hi).1;omega) f4).1 (this.trans Bf.symm)
  have h4:=Va hp Bf ho
  rw[jo]at h4;cases h4
  refine⟨p[k],(AL h1).2 ⟨_,ho,by rw[<-h3 _ hi,QZ];exact g1,λe he hb=>?_⟩⟩
  have:=g2 (Dc p e) (by simp only[Mp,gR];exact⟨e,he,rfl⟩) hb
  have this:fe.getD (pos e.on p 0) false=true:=this
  have J6:pos e.on p 0<ops.size:=by
   by_cases h:pos e.on p 0<ops.size
   ·exact h
   ·rw[aY,dif_neg (by omega)]at this;cases this
  rw[<-h3 _ (Zj1 hp J6)];exact this
 intro fuel
 induction fuel with
 |zero=>
  intro au fe a w h1 h2 h3 h
  refine⟨?_,h.2⟩
  cases hr:Region.ready .any ops au with
  |nil=>rfl
  |cons i l=>
   have:=(up au fe i h1 h2 h3 (by rw[hr];simp)).2
   rw[h.1]at this;cases this
 |succ fuel ih=>
  intro au fe a w h1 h2 h3 h
  refine⟨λhe=>h.1 ?_,λi hi=>?_⟩
  ·cases hr:Region.ready .any (nj p ops) fe with
   |nil=>rfl
   |cons k l=>
    obtain⟨i,hi⟩:=down au fe k h1 h2 h3 (by rw[hr];simp)
    rw[he]at hi;cases hi
  ·obtain⟨bh,iF⟩:=up au fe i h1 h2 h3 hi
   refine zz hp bh (λa' w' hk=>ih _ _ a' w' (by simpa using h1) (by simpa using h2) (λk hk=>?_) hk) (h.2 _ iF)
   have hpi:=(Ht hp bh)
   have Bf:=(Ht hp hk)
   have gs:∀(A:Array Bool) (x y:Nat),x<A.size->(A.setIfInBounds x true).getD y false=if x=y then true else A.getD y false:=λA x y hx=>by
    simp only[aQ,Array.getElem?_setIfInBounds]
    split
    ·rename_i e;subst e;simp[hx]
    ·rfl
   rw[gs _ _ _ (by omega),gs _ _ _ (by omega)]
   by_cases e:i=k
   ·subst e;simp
   ·have gu:pos i p 0≠pos k p 0:=λe'=>by
     have:=Bf.2
     rw[<-e',hpi.2]at this
     exact e (Option.some.inj this)
    rw[if_neg e,if_neg gu];exact h3 k hk
end
theorem Znr{ro:Option Nat}(hm:P.follows .mixedOrders=true){N M id:Nat}{Q:Ex->St->Prop}(hT:Q4 P T)(hG:jD P G){p:List Nat}(hp:U8 p ops.size=true)(h:lV T G N M (nj p ops) (nj p ops).toList st λst=>cu (QR G (nj p ops) st.env) (Q .normal st)):tN ro P N M (.region id ops true) st Q:=by
 intro c0 w0 c w a hs
 have hs:=hs.drew
 refine Qya hm ?_
 refine Zrn hp ops.size _ (gH ops.size false) a _ (by simp) (by simp) (λi hi=>by simp[aY,(Ht hp hi).1,hi]) ?_
 obtain⟨s,ks,val,h1,h2,h3,h4,h5,h6⟩:=Ziu hT hG (nj p ops).toList 0 st (by simp) h
 have hc:U6 P G N M (nj p ops) s ks val:=⟨⟨λi o ho=>h3 i o (bC _) ho,λi o t ho=>h4 i o t (bC _) ho,λi o t ho=>h5 i o t (bC _) ho⟩,λi o ho=>h6 i o (bC _) ho⟩
 have ft:s (0+(nj p ops).toList.length)=s (nj p ops).size:=by simp
 rw[ft]at h2
 obtain⟨hd,h2⟩:=dd.1 h2
 have kS:=Qsa hp
 obtain⟨d,g1,g2,g3,g4⟩:=MV G (nj p ops) _ 0 rfl (bC _)
 have hz:∀i,(gH (nj p ops).size false).getD i false=false:=λi=>by
  by_cases h:i<(nj p ops).size
  ·simp[aY,h]
  ·simp[aY,h]
 rw[<-kS]
 refine qz hc hd (Q:=λe a' w'=>∃ex jq c',mN e=some ex/\Q ex jq/\fi N M c0 w0 c' w' jq a') (λc w a iU=>⟨_,_,c,rfl,h2,iU⟩) (nj p ops).size _ a _ 0 d (by simp) (V7 _ _)
  ⟨g1,g2,λi hi=>by omega,g3,g4,λj hj=>by simp[hz]at hj,hs.size,hs.defers,hs.fx,hs.gv,c,λ_=>0,hs.mem,λr=>?_,λt _ _=>?_,hs.reach,λi _ hl=>by simp[hz]at hl,λi j _ _ hl=>by simp[hz]at hl⟩
 ·rw[Sn (λi _=>hz _),h1];exact hs.rows r
 ·rw[Sm (λi _=>hz _),h1];exact hs.env t
theorem yz(hm:P.follows .mixedOrders=true):pA P:=by
 intro ro T G N M id ops st Q hT hG h
 unfold uH at h
 split at h
 ·rename_i hd
  exact xa hm ro T G N M id ops st Q hT hG hd h
 ·obtain⟨h1,h2⟩:=dd.1 h
  exact Znr hm hT hG h1 h2
