import Derived.Test.YtaemmjbkndlkeaaGreatMigrateOrdersDraw
open List renaming all_cons->gJ,mem_cons_self->eU,getD->aV,getElem?_eq_none->aJ,mem_of_getElem?->fL,mem_append_left->eS,mem_append_right->eX,mem_filter->gM,mem_range->gN
open Array renaming mem_toList_iff->gL,toArray_toList->bW,getElem?_eq_getElem->aU,getElem?_setIfInBounds_ne->aZ,getD->aY,getD_eq_getD_getElem?->aQ,getElem?_eq_none->gO,mem_map->gP,replicate->gE
open Option renaming bind_some->aW,map_some->bA,getD_some->aR
open Bool renaming or_eq_true->aT,false_eq_true->aA,not_eq_true'->bB
open Nat renaming lt_of_lt_of_le->bM,le_refl->aX,add_zero->aB,zero_le->bC
set_option linter.all false
namespace Go.GD
open Go
set_option linter.unusedSectionVars false
variable {G:List ba}{K:D->Rows->Prop}{M N b i j k off r u:Nat}{P:Program}{Q:Exit->Act->World->Prop}{R:Rows}{T:iu}{a:Act}{arr:Array Value}{c c' c0:Ctx}{d:D}{ev:Operand->D}{dt:Nat->Bool}{o x y:Oper}{op:Op}{ops:Array Oper}{pl:Bool}{q:List Nat}{row:Row}{s:Nat->St}{st:St}{t:TypeId}{ti:TI}{ty:sq}{v:Value}{val:Nat->D}{w w' w0:World}
theorem ZX{K:D->Prop}(h:uO pl ty d K):∃d',K d'/\∀K2:D->Prop,K2 d'->uO pl ty d K2:=by
 cases ty<;>simp only[uO]at h⊢
 ·exact⟨_,(dd.1 h).2,λK2 h2=>dd.2 ⟨(dd.1 h).1,h2⟩⟩
 ·exact⟨_,(dd.1 h).2,λK2 h2=>dd.2 ⟨(dd.1 h).1,h2⟩⟩
 ·exact⟨_,(dd.1 h).2,λK2 h2=>dd.2 ⟨(dd.1 h).1,h2⟩⟩
 ·cases pl
  ·simp only[D.c6]at h⊢
   exact⟨_,(dd.1 h).2,λK2 h2=>dd.2 ⟨(dd.1 h).1,h2⟩⟩
  ·exact⟨_,(dd.1 h).2,λK2 h2=>dd.2 ⟨(dd.1 h).1,h2⟩⟩
 ·cases pl
  ·simp only[D.c6]at h⊢
   exact⟨_,(dd.1 h).2,λK2 h2=>dd.2 ⟨(dd.1 h).1,h2⟩⟩
  ·cases d<;>first|exact h.elim|exact⟨_,h,λK2 h2=>h2⟩
theorem My{pl:Bool}{e:List D}:∀{dj:List sq} {off:Nat} {K:List D->Prop},Ej pl e dj off K->∃ds,K ds/\∀K2:List D->Prop,K2 ds->Ej pl e dj off K2
 |[],off,K,h=>⟨[],h,λK2 h2=>h2⟩
 |t::ts,off,K,h=>by
  simp only[Ej]at h⊢
  obtain⟨d,hd,h1⟩:=ZX h
  obtain⟨ds,Ek,h2⟩:=My hd
  exact⟨_,Ek,λK2 hk=>h1 _ (h2 _ hk)⟩
theorem Vd{e:List D}{K:D->Prop}(h:uP pl ti e off K):∃d,K d/\∀K2:D->Prop,K2 d->uP pl ti e off K2:=by
 unfold uP at h
 cases hg:ti.kind.isAgg with
 |true=>
  simp only[hg]at h
  obtain⟨ds,h1,h2⟩:=My h
  exact⟨_,h1,λK2 hk=>by unfold uP;simp only[hg];exact h2 _ hk⟩
 |false=>
  simp only[hg]at h
  split at h
  ·rename_i y hy
   obtain⟨d,h1,h2⟩:=ZX h
   exact⟨_,h1,λK2 hk=>by unfold uP;simp only[hg,hy];exact h2 _ hk⟩
  ·exact h.elim
theorem Zis(h:wR T t (.ptr r i off) R K):
 ∃d,K d R/\(∃row,R.getD r none=some row)/\∀R2:Rows,R2.getD r none=R.getD r none->wR T t (.ptr r i off) R2 λd' R'=>d'=d/\R'=R2:=by
 unfold wR at h
 cases hT:T.get t with
 |none=>simp only[hT]at h
 |some ti=>
  simp only[hT]at h
  cases hr:R.getD r none with
  |none=>simp only[hr]at h
  |some row=>
   obtain⟨box,ty,sz,es⟩:=row
   simp only[hr,dd]at h
   obtain⟨h0,h⟩:=h
   obtain⟨d,h1,h2⟩:=Vd h
   refine⟨d,h1,?_,λR2 uL=>?_⟩
   ·exact⟨_,rfl⟩
   ·unfold wR
    simp only[hT,uL,dd]
    exact⟨h0,h2 _ (by simp)⟩
theorem Z27{ks:List Nat}(h:FU d=true):d.ez ks=d:=by cases d<;>first|rfl|cases h
theorem Z17{ks:List Nat}:∀{l:List D},l.all FU=true->D.ji ks l=l
 |[],_=>rfl
 |d::l,h=>by
  simp only[gJ,aE]at h
  simp only[D.ji]
  rw[Z27 h.1,Z17 h.2]
theorem Znt{ks:List Nat}(h:FU (d.ez ks)=true):d.ez ks=d:=by
 cases d<;>first
  |rfl
  |(simp only[D.ez]at h;split at h<;>cases h)
theorem Qnq{ks:List Nat}:∀{l:List D},(D.ji ks l).all FU=true->D.ji ks l=l
 |[],_=>rfl
 |d::l,h=>by
  simp only[D.ji,gJ,aE]at h
  simp only[D.ji]
  rw[Znt h.1,Qnq h.2]
theorem Zs7(h:pC d=true)(ks:List Nat):d.jW ks=d.ez ks:=by
 cases d<;>first
  |rfl
  |(cases h;done)
  |(simp only[D.jW,D.kill,D.ez];rw[Z17 h])
theorem Zbe{d d':D}{ks:List Nat}(h:uO pl ty d λx=>x=d')(hd:d'.ez ks=d'):d.ez ks=d:=by
 cases ty<;>simp only[uO]at h
 ·cases d<;>first|rfl|(simp[D.isInt,dd]at h;done)
 ·cases d<;>first|rfl|(simp[D.isBool,dd]at h;done)
 ·cases d<;>first|rfl|(simp[D.isStr,dd]at h;done)
 ·cases pl
  ·simp only[D.c6,dd]at h
   rw[h.2];exact hd
  ·simp only[dd]at h
   cases d<;>first|rfl|(simp[D.FA,dd]at h;done)
 ·cases pl
  ·simp only[D.c6,dd]at h
   rw[h.2];exact hd
  ·cases d<;>first|exact h.elim|rfl
theorem Zc6{ks:List Nat}:∀{l:List D} {j:Nat},(D.ji ks l).getD j .dead=(l.getD j .dead).ez ks
 |[],_=>rfl
 |_::_,0=>rfl
 |_::l,j+1=>Zc6 (l:=l) (j:=j)
theorem Z6r(ks:List Nat)(row:Row)(i off:Nat):((row.kill ks).es.get i).getD off .dead=(row.es.get i).getD off .dead\/((row.kill ks).es.get i).getD off .dead=((row.es.get i).getD off .dead).ez ks:=by
 unfold Row.kill
 split
 ·rename_i ty sz e
  cases i with
  |zero=>exact .inr Zc6
  |succ i=>exact .inl rfl
 ·exact .inl rfl
theorem Z50{pl:Bool}{ks:List Nat}{e e2:List D}(he:∀j,e2.getD j .dead=e.getD j .dead\/e2.getD j .dead=(e.getD j .dead).ez ks):∀{dj:List sq} {off:Nat} {ds:List D},Ej pl e dj off (λx=>x=ds)->ds.all FU=true->Ej pl e2 dj off λx=>x=ds
 |[],_,_,h,_=>h
 |t ::ts,off,ds,h,hd=>by
  simp only[Ej]at h⊢
  obtain⟨d,h1,h2⟩:=ZX h
  obtain⟨ds1,h3,h4⟩:=My h1
  subst h3
  simp only[gJ,aE]at hd
  have hc:=h2 (λx=>x=d) rfl
  have e:e2.getD off .dead=e.getD off .dead:=by
   rcases he off with e|e
   ·exact e
   ·rw[e];exact Zbe hc (Z27 hd.1)
  rw[e]
  refine h2 _ ?_
  obtain⟨ds3,h5,h6⟩:=My (Z50 he (h4 (λx=>x=ds1) rfl) hd.2)
  exact h6 _ (by rw[h5])
theorem Zlp{v:D}{ks:List Nat}(h:uP pl ti (row.es.get i) off λx=>x=v)(hv:pC v=true)(hk:v.ez ks=v):uP pl ti ((row.kill ks).es.get i) off λx=>x=v:=by
 unfold uP at h⊢
 cases hg:ti.kind.isAgg with
 |true=>
  simp only[hg]at h⊢
  obtain⟨ds,h1,h2⟩:=My h
  rw[<-h1]at hv⊢
  have hd:ds.all FU=true:=hv
  have:=Z50 (e2:=(row.kill ks).es.get i) (ks:=ks) (λj=>Z6r ks row i j) (h2 (λx=>x=ds) rfl) hd
  obtain⟨ds2,h3,h4⟩:=My this
  exact h4 _ (by rw[h3])
 |false=>
  simp only[hg]at h⊢
  split at h
  ·rename_i y hy
   have e:((row.kill ks).es.get i).getD off .dead=(row.es.get i).getD off .dead:=by
    rcases Z6r ks row i off with e|e
    ·exact e
    ·rw[e];exact Zbe h hk
   rw[e];exact h
  ·exact h.elim
theorem Z1e{pl:Bool}{ti:TI}{i off:Nat}{v:D}(hv:pC v=true):∀{L:List (List Nat)} {row:Row},(∀kk∈L,v.ez kk=v)->(uP pl ti (row.es.get i) off λx=>x=v)->uP pl ti ((L.foldl (λr k=>Row.kill k r) row).es.get i) off λx=>x=v
 |[],_,_,h=>h
 |k::L,row,hL,h=>Z1e hv (L:=L) (row:=row.kill k) (λkk hk=>hL kk (List.mem_cons_of_mem _ hk)) (Zlp h hv (hL k (eU ..)))
theorem Z74:∀(L:List (List Nat)) (row:Row),(L.foldl (λr k=>Row.kill k r) row).box=row.box/\(L.foldl (λr k=>Row.kill k r) row).sz=row.sz
 |[],_=>⟨rfl,rfl⟩
 |k::L,row=>by
  obtain⟨k1,k2,k3,k4⟩:=wq k row
  obtain⟨h1,h2⟩:=Z74 L (row.kill k)
  exact⟨h1.trans k1,h2.trans k3⟩
theorem Zr{R R2:Rows}{v:D}{L:List (List Nat)}(h:wR T t (.ptr r i off) R λd' R'=>d'=v/\R'=R)(hv:pC v=true)(hL:∀kk∈L,v.ez kk=v)(hr:R.getD r none=some row)(uL:R2.getD r none=some (L.foldl (λr k=>Row.kill k r) row)):
 wR T t (.ptr r i off) R2 λd' R'=>d'=v/\R'=R2:=by
 obtain⟨s1,s2⟩:=Z74 L row
 unfold wR at h⊢
 cases hT:T.get t with
 |none=>simp only[hT]at h
 |some ti=>
  simp only[hT,hr]at h
  simp only[hT,uL]
  obtain⟨box,ty,sz,es⟩:=row
  simp only at h s1 s2
  generalize cz:L.foldl (λr k=>Row.kill k r) (⟨box,ty,sz,es⟩:Row)=jz at s1 s2⊢
  obtain⟨QY,ty2,sz2,es2⟩:=jz
  simp only at s1 s2⊢
  subst s1;subst s2
  simp only[dd]at h⊢
  refine⟨h.1,?_⟩
  have hx:uP (!QY) ti (es.get i) off λx=>x=v:=by
   obtain⟨d,h1,h2⟩:=Vd h.2
   exact h2 _ h1.1
  have:=Z1e (L:=L) (row:=⟨QY,ty,sz2,es⟩) hv hL hx
  rw[cz]at this
  obtain⟨d,h1,h2⟩:=Vd this
  exact h2 _ ⟨h1,by first|trivial|rfl⟩
theorem Zg2(h:HC T t (.ptr r i off) d R K):
 ∃R',K .dead R'/\(∀r',r'≠r->R'.getD r' none=R.getD r' none)/\HC T t (.ptr r i off) d R λd' R2=>d'=.dead/\R2=R':=by
 unfold HC at h
 cases hT:T.get t with
 |none=>simp only[hT]at h
 |some ti=>
  simp only[hT]at h
  cases hr:R.getD r none with
  |none=>simp only[hr]at h
  |some row=>
   obtain⟨box,ty,sz,es⟩:=row
   simp only[hr,dd]at h
   obtain⟨h0,h⟩:=h
   have uQ:∀(x:Option Row) (r':Nat),r'≠r->(R.set r x).getD r' none=R.getD r' none:=λx r' h=>by
    simp only[aV,List.getElem?_set_ne (Ne.symm h)]
   cases box with
   |true=>
    simp only[D.ey,nm]at h
    refine⟨_,h,uQ _,?_⟩
    unfold HC
    simp only[hT,hr,dd,D.ey,nm]
    exact⟨h0,by simp⟩
   |false=>
    simp only[nm]at h
    refine⟨_,h.2,uQ _,?_⟩
    unfold HC
    simp only[hT,hr,dd,nm]
    exact⟨h0,h.1,by simp⟩
structure Ve(P:Program)(o:Oper)(row:Row)(arr:Array Value):Prop where
 box:row.box=true
 sz:0<row.sz
 cells:∃e,row.es=.gen [e]/\e.length=row.sz/\arr.size=row.sz/\∀(c:Ctx) (w:World),kF c w e arr 0
 run:∀(ev:Operand->Value) (w:World),(execOp ev o).run P w=.ok (.value (.pointer (some ⟨w.heap.size,0,none⟩))) (w.alloc (.cells arr row.ty))
theorem Zsy(hT:jg P T)(ho:o.op=.alloc t){k:TK}{sz b:Nat}{cs:List sq}{ds:List D}{e:Bool}(ht:T.get t=some ⟨k,sz,b,cs,some ds,e⟩)(h0:0<sz)(hl:ds.length=sz):∃arr,Ve P o ⟨true,t,sz,.gen [ds]⟩ arr:=by
 obtain⟨i,u,hi,hu,hz,_,_,_,hzero⟩:=Hl hT ht
 have hb:∀(c:Ctx) (w:World),U4 c w ⟨true,t,sz,.gen [ds]⟩ u.cells:=λc w=>ZA h0 hl (JC hz c w)
 have fp:u.cells.size=sz:=by have:=Md hz;simp at this;omega
 refine⟨u.cells,⟨rfl,h0,⟨ds,rfl,hl,fp,λc w=>?_⟩,λev w=>?_⟩⟩
 ·have:=(hb c w).2
  simp only[if_true]at this
  obtain⟨e',h1,_,_,h4⟩:=this
  cases h1;exact h4
 ·simp only[execOp,ho,Instr.alloc,Sem.run_bind,hzero,Result.andThen_ok,ZB,Sem.run_pure]
structure JR(P:Program)(G:List ba)(o:Oper)(env:List (Nat×D))(R:Rows)(ks:List Nat)(val:D)(R':Rows):Prop where
 ld:∀t a r ii off,o.guard=none->o.op=.load t (.tmp a)->look env a=.ptr r ii off->ks=[]/\R'=R/\(∃row,R.getD r none=some row)/\(∀(ev:Operand->D) (R2:Rows),ev (.tmp a)=.ptr r ii off->R2.getD r none=R.getD r none->pL P o ev R2 val R2)/\∀(ev:Operand->D) (R2:Rows) row (L:List (List Nat)),pC val=true->(∀kk∈L,val.ez kk=val)->ev (.tmp a)=.ptr r ii off->R.getD r none=some row->R2.getD r none=some (L.foldl (λr k=>Row.kill k r) row)->pL P o ev R2 val R2
 st:∀t b x r ii off,o.guard=none->o.op=.store t (.tmp b) x->look env b=.ptr r ii off->ks=[]/\∀r',r'≠r->R'.getD r' none=R.getD r' none
 pu:∀q,o.guard=none->lR env o.op=some q->ks=[]/\R'=R/\∀(ev:Operand->D) (R2:Rows),(∀x∈o.op.operands,ev x=cj env x)->pL P o ev R2 val R2
 cl:∀f args dj,o.guard=none->o.op=.call ⟨.value (.func f),args,dj⟩->(o6 G f=none/\BP G f=false)->ks=[]
 al:∀t,o.guard=none->o.op=.alloc t->ks=[]/\∃row arr,Ve P o row arr/\val=.ptr R.length 0 0/\R'=R++[some row]
 ap2:∀args dj,o.guard=none->o.op=.call ⟨.builtin .append,args,dj⟩->∀r row,R.getD r none=some row->da r ks=false->R'.getD r none=some (row.kill ks)
 ap:∀args dj x l,o.guard=none->o.op=.call ⟨.builtin .append,args,dj⟩->args.toList=.tmp x::l->JS (look env x)=true->ks=[]/\∀r row,R.getD r none=some row->R'.getD r none=some row
theorem AM{a:Nat}:∀{l:List Operand},a∈Q6 l↔Operand.tmp a∈l
 |[]=>by simp[Q6]
 |x::l=>by cases x<;>simp[Q6,AM (l:=l)]
theorem Zm7(h:rF op=some q){a:Nat}(ha:Operand.tmp a∈op.operands):a∈q:=by
 unfold rF at h
 split at h
 ·cases h;rw[AM];simpa[Op.operands]using ha
 ·cases h;rw[AM];simpa[Op.operands]using ha
 ·cases h;rw[AM];simpa[Op.operands]using ha
 ·cases h;rw[AM];simpa[Op.operands]using ha
 ·cases h;rw[AM];simpa[Op.operands]using ha
 ·split at h
  ·cases h
  ·cases h;rw[AM];simpa[Op.operands]using ha
 ·cases h
theorem Zeh(h:rF op=some q):r8 G op=false/\Gw op=false/\(∀t x,op≠.load t x)/\(∀t x y,op≠.store t x y)/\∀c,op≠.call c:=by
 unfold rF at h
 split at h<;>first|exact⟨rfl,rfl,λ_ _ h=>(by cases h),λ_ _ _ h=>(by cases h),λ_ h=>(by cases h)⟩|cases h
theorem xU(hq:rF op=some q)(h:gp T op ev R K):
 ∃val,K val R/\∀(gu:Operand->D) (R2:Rows),(∀x∈op.operands,gu x=ev x)->gp T op gu R2 λd R'=>d=val/\R'=R2:=by
 unfold rF at hq
 split at hq
 ·rename_i x
  simp only[gp,D.c6]at h⊢
  exact⟨_,h,λgu R2 he=>⟨he x (by simp[Op.operands]),trivial⟩⟩
 ·rename_i x
  simp only[gp,D.c6]at h⊢
  exact⟨_,h,λgu R2 he=>⟨he x (by simp[Op.operands]),trivial⟩⟩
 ·rename_i x n
  simp only[gp]at h⊢
  split at h
  ·rename_i ds Ek
   simp only[dd,D.c6]at h
   refine⟨_,h.2,λgu R2 he=>?_⟩
   rw[he x (by simp[Op.operands]),Ek]
   simp only[dd,D.c6]
   exact⟨h.1,trivial,trivial⟩
  ·exact h.elim
 ·rename_i x
  simp only[gp]at h⊢
  split at h
  ·rename_i hx
   refine⟨_,h,λgu R2 he=>?_⟩
   rw[he x (by simp[Op.operands]),hx]
   simp
  ·rename_i hx
   refine⟨_,h,λgu R2 he=>?_⟩
   rw[he x (by simp[Op.operands]),hx]
   simp
  ·exact h.elim
 ·rename_i t x f
  simp only[gp]at h⊢
  split at h
  ·simp only[dd]at h⊢
   obtain⟨h0,h⟩:=h
   split at h
   ·rename_i hx
    refine⟨_,h,λgu R2 he=>⟨h0,?_⟩⟩
    rw[he x (by simp[Op.operands]),hx]
    simp
   ·rename_i hx
    refine⟨_,h,λgu R2 he=>⟨h0,?_⟩⟩
    rw[he x (by simp[Op.operands]),hx]
    simp
   ·exact h.elim
  ·exact h.elim
 ·rename_i t len parts
  simp only[gp,HO]at h⊢
  cases hl:US t len
  rotate_left
  ·simp only[hl]at hq;cases hq
  simp only[hl,Ai]at h⊢
  obtain⟨val,h1,h2⟩:=Znj h
  exact⟨val,h1,λgu R2 he=>h2 gu R2 λp hp=>he p.2 (by simp[Op.operands];exact⟨p.1,by simpa using hp⟩)⟩
 ·cases hq
theorem zw(hq:rF o.op=some q){K:St->Prop}(h:lV T G N M o st K):gp T o.op (cj st.env) st.rows λd R=>st.put N o.dst d R K:=by
 obtain⟨dst,op,type,pos,after,guard⟩:=o
 simp only at hq⊢
 unfold rF at hq
 split at hq<;>first|exact h|cases hq
theorem zas{op:BinOp}{x y:D}{K:D->Prop}(h:sR T op t x y K):∃val,K val/\∀K',K' val->sR T op t x y K':=by
 unfold sR at h⊢
 split at h
 ·split at h
  ·simp only[dd]at h⊢;exact⟨_,h.2,λK' h'=>⟨h.1,h'⟩⟩
  ·simp only[dd]at h⊢;exact⟨_,h.2,λK' h'=>⟨h.1,h'⟩⟩
  ·rename_i n1 n2
   simp only[dd]at h⊢
   obtain⟨h1,h⟩:=h
   unfold U0 at h⊢
   split at h<;>first|exact⟨_,h,λK' h'=>⟨h1,h'⟩⟩|(simp only[dd]at h⊢;exact⟨_,h.2,λK' h'=>⟨h1,h.1,h'⟩⟩)|exact h.elim
 ·split at h<;>first|exact⟨_,h,λK' h'=>h'⟩|(simp only[dd]at h⊢;exact⟨_,h.2,λK' h'=>⟨h.1,h'⟩⟩)|exact h.elim
 ·split at h
  ·split at h<;>first|exact⟨_,h,λK' h'=>h'⟩|exact h.elim
  ·exact h.elim
 ·split at h
  ·simp only[dd]at h⊢
   obtain⟨h1,h⟩:=h
   split at h<;>first|exact⟨_,h,λK' h'=>⟨h1,h'⟩⟩|exact h.elim
  ·exact h.elim
 ·exact h.elim
theorem zU{s d:TypeId}{x:D}{K:D->Prop}(h:Mq T s d x K):∃val,K val/\∀K',K' val->Mq T s d x K':=by
 unfold Mq at h⊢
 split at h
 ·split at h
  ·exact⟨_,h,λK' h'=>h'⟩
  ·exact h.elim
 ·split at h
  ·exact⟨_,h,λK' h'=>h'⟩
  ·exact h.elim
 ·exact h.elim
theorem ZY{place:Nat->Option (Nat×Nat)}{ev:Operand->D}:∀{parts:List (Nat×Operand)} {cs:List D} {K:List D->Prop},FH place ev parts cs K->∃l,K l/\∀(gu:Operand->D) (K':List D->Prop),(∀p∈parts,gu p.2=ev p.2)->K' l->FH place gu parts cs K'
 |[],cs,K,h=>by
  simp only[FH,D.ey]at h⊢
  exact⟨_,h,λgu K' _ h'=>h'⟩
 |(i,x)::ps,cs,K,h=>by
  simp only[FH]at h⊢
  split at h
  ·rename_i off n hp
   simp only[dd]at h
   obtain⟨h1,h⟩:=h
   obtain⟨l,g1,g2⟩:=ZY h
   refine⟨l,g1,λgu K' he h'=>?_⟩
   have hx:=he (i,x) (by simp)
   simp only at hx
   simp only[hx,dd]
   exact⟨h1,g2 gu K' (λp hpp=>he p (by simp[hpp])) h'⟩
  ·exact h.elim
theorem yw{parts:List (Nat×Operand)}(h:Ms T t parts ev R K):∃val,K val R/\∀(gu:Operand->D) (R2:Rows),(∀p∈parts,gu p.2=ev p.2)->Ms T t parts gu R2 λd R'=>d=val/\R'=R2:=by
 unfold Ms at h⊢
 split at h
 ·simp only[dd]at h⊢
  obtain⟨h1,h⟩:=h
  obtain⟨l,g1,g2⟩:=ZY h
  exact⟨_,g1,λgu R2 he=>⟨h1,g2 gu _ he (by simp)⟩⟩
 ·simp only[dd]at h⊢
  obtain⟨h1,h⟩:=h
  obtain⟨l,g1,g2⟩:=ZY h
  exact⟨_,g1,λgu R2 he=>⟨h1,g2 gu _ he (by simp)⟩⟩
 ·exact h.elim
theorem Mz{x:D}{lo hi:Option Operand}(h:Mr T t x lo hi ev R K)(hx:FU x=true):∃val,K val R/\∀(gu:Operand->D) (R2:Rows),(∀y,lo=some y->gu y=ev y)->(∀y,hi=some y->gu y=ev y)->Mr T t x lo hi gu R2 λd R'=>d=val/\R'=R2:=by
 have QZ:∀(x:Option Operand) (n:Int) (gu:Operand->D),(∀y,x=some y->gu y=ev y)->rU x gu n=rU x ev n:=λx n gu he=>by
  unfold rU
  cases x with
  |none=>rfl
  |some y=>simp only[he y rfl]
 unfold Mr at h⊢
 split at h
 all_goals cases x<;>first|exact h.elim|(cases hx;done)|skip
 all_goals
  simp only at h
  split at h
  ·rename_i l hh e1 e2
   simp only[dd]at h
   refine⟨_,h.2,λgu R2 he1 he2=>?_⟩
   simp only[QZ _ _ gu he1,QZ _ _ gu he2,e1,e2,dd]
   exact⟨h.1,trivial,trivial⟩
  ·exact h.elim
theorem vw{env:List (Nat×D)}(hq:lR env op=some q)(h:gp T op (cj env) R K):
    ∃val,K val R/\ ∀(gu:Operand->D) (R2:Rows),(∀x∈op.operands,gu x=cj env x)->gp T op gu R2 λd R'=>d=val/\R'=R2:=by
  unfold lR at hq
  split at hq
  . rename_i q' hp;exact xU hp h
  . split at hq
    . rename_i t parts hn
      simp only[gp]at h⊢
      obtain⟨val,g1,g2⟩:=yw h
      exact⟨val,g1,λgu R2 he=>g2 gu R2 λp hp=>he p.2 (by simp [Op.operands];exact⟨p.1,by simpa using hp⟩)⟩
    . rename_i op' t x y ty hn
      simp only[gp]at h⊢
      obtain⟨val,g1,g2⟩:=zas h
      refine⟨val,g1,λgu R2 he=> ?_⟩
      rw[he x (by simp [Op.operands]),he y (by simp [Op.operands])]
      exact g2 _ (by simp)
    . rename_i op' t x hn
      simp only[gp]at h⊢
      split at h
      all_goals first
        |exact h.elim
        | (rename_i hx
           refine⟨_,h,λgu R2 he=> ?_⟩
           rw[he x (by simp [Op.operands]),hx]
           simp)
    . rename_i s d x hn
      simp only[gp]at h⊢
      obtain⟨val,g1,g2⟩:=zU h
      refine⟨val,g1,λgu R2 he=> ?_⟩
      rw[he x (by simp [Op.operands])]
      exact g2 _ (by simp)
    . rename_i s x f hn
      simp only[gp]at h⊢
      split at h
      . split at h
        . rename_i cs ti hx ht
          simp only[dd]at h
          obtain⟨h1,h⟩:=h
          split at h
          . rename_i CU
            simp only[D.ey]at h
            refine⟨_,h,λgu R2 he=> ?_⟩
            simp only[he x (by simp [Op.operands]),hx,ht,dd,CU,D.ey]
            exact⟨h1,trivial,trivial⟩
          . rename_i CU
            simp only[dd,D.c6]at h
            refine⟨_,h.2,λgu R2 he=> ?_⟩
            simp only[he x (by simp [Op.operands]),hx,ht,dd,CU,D.c6]
            exact⟨h1,h.1,trivial,trivial⟩
        . exact h.elim
      . exact h.elim
    . rename_i t x y hn
      simp only[gp]at h⊢
      split at h
      . rename_i ht hx hy
        simp only[dd]at h
        refine⟨_,h.2,λgu R2 he=> ?_⟩
        simp only[he x (by simp [Op.operands]),he y (by simp [Op.operands]),hx,hy,ht,dd]
        exact⟨h.1,trivial,trivial⟩
      . rename_i ht hx hy
        simp only[dd]at h
        obtain⟨h1,h⟩:=h
        split at h
        . rename_i Aa
          refine⟨_,h.2,λgu R2 he=> ?_⟩
          simp only[he x (by simp [Op.operands]),he y (by simp [Op.operands]),hx,hy,ht,dd,Aa]
          exact⟨h1,h.1,trivial,trivial⟩
        . rename_i Aa
          refine⟨_,h.2,λgu R2 he=> ?_⟩
          simp only[he x (by simp [Op.operands]),he y (by simp [Op.operands]),hx,hy,ht,dd,Aa]
          exact⟨h1,h.1,trivial,trivial⟩
        . exact h.elim
      . exact h.elim
    . rename_i t x y z hn
      split at hq
      . rename_i str hx
        simp only[gp,hx]at h⊢
        obtain⟨val,g1,g2⟩:=Mz h rfl
        refine⟨val,g1,λgu R2 he=> ?_⟩
        rw[he x (by simp [Op.operands]),hx]
        exact g2 gu R2 (λu hu=>he u (by cases hu;simp [Op.operands])) (λu hu=>he u (by cases hu;simp [Op.operands]))
      . rename_i sz es fr hx
        simp only[gp,hx]at h⊢
        obtain⟨val,g1,g2⟩:=Mz h rfl
        refine⟨val,g1,λgu R2 he=> ?_⟩
        rw[he x (by simp [Op.operands]),hx]
        exact g2 gu R2 (λu hu=>he u (by cases hu;simp [Op.operands])) (λu hu=>he u (by cases hu;simp [Op.operands]))
      . cases hq
    . rename_i t x y hn
      split at hq
      . rename_i str hx
        simp only[gp,hx]at h⊢
        obtain⟨val,g1,g2⟩:=Mz h rfl
        refine⟨val,g1,λgu R2 he=> ?_⟩
        rw[he x (by simp [Op.operands]),hx]
        exact g2 gu R2 (λu hu=>he u (by cases hu;simp [Op.operands])) (λu hu=>he u (by cases hu))
      . rename_i sz es fr hx
        simp only[gp,hx]at h⊢
        obtain⟨val,g1,g2⟩:=Mz h rfl
        refine⟨val,g1,λgu R2 he=> ?_⟩
        rw[he x (by simp [Op.operands]),hx]
        exact g2 gu R2 (λu hu=>he u (by cases hu;simp [Op.operands])) (λu hu=>he u (by cases hu))
      . cases hq
    . rename_i t x y hn
      split at hq
      . rename_i str hx
        simp only[gp,hx]at h⊢
        obtain⟨val,g1,g2⟩:=Mz h rfl
        refine⟨val,g1,λgu R2 he=> ?_⟩
        rw[he x (by simp [Op.operands]),hx]
        exact g2 gu R2 (λu hu=>he u (by cases hu)) (λu hu=>he u (by cases hu;simp [Op.operands]))
      . rename_i sz es fr hx
        simp only[gp,hx]at h⊢
        obtain⟨val,g1,g2⟩:=Mz h rfl
        refine⟨val,g1,λgu R2 he=> ?_⟩
        rw[he x (by simp [Op.operands]),hx]
        exact g2 gu R2 (λu hu=>he u (by cases hu)) (λu hu=>he u (by cases hu;simp [Op.operands]))
      . cases hq
    . rename_i t x y hn
      split at hq
      . rename_i sz es fr hx
        simp only[gp,hx]at h⊢
        split at h
        . rename_i k n hy
          unfold U2 at h⊢
          split at h
          . rename_i ht
            simp only[dd]at h
            refine⟨_,h.2,λgu R2 he=> ?_⟩
            simp only[he x (by simp [Op.operands]),he y (by simp [Op.operands]),hx,hy,ht,dd]
            exact⟨h.1,trivial,trivial⟩
          . simp only[dd]at h
            exact h.2.elim
          . exact h.elim
        . exact h.elim
      . cases hq
    . rename_i t x hn
      split at hq
      . rename_i sz es i off hx
        simp only[gp,hx]at h⊢
        unfold wR at h⊢
        split at h
        . exact h.elim
        . rename_i ti ht
          simp only[dd]at h
          obtain⟨d,g1,g2⟩:=Vd h.2
          refine⟨d,g1,λgu R2 he=> ?_⟩
          simp only[he x (by simp [Op.operands]),hx,ht,dd]
          exact⟨h.1,g2 _ (by simp)⟩
      . cases hq
    . rename_i args dj hn
      split at hq
      . rename_i x ft
        have hxm:x∈(Op.call {callee:= .builtin .len,args:=args,argTypes:=dj}).operands:=by simp [Op.operands,Call.operands];rw[<-gL,ft];simp
        simp only[gp,ft]at h⊢
        split at h
        . rename_i y t e1 e2
          cases e1
          rw[e2]at*
          split at hq
          . rename_i str hx
            simp only[hx]at h⊢
            unfold sW at h⊢
            split at h
            . simp only at h
              exact⟨_,h,λgu R2 he=>by simp only[he x hxm,hx];simp⟩
            . exact h.elim
            . exact h.elim
          . rename_i sz es fr hx
            simp only[hx]at h⊢
            unfold sW at h⊢
            split at h
            . exact h.elim
            . simp only at h
              exact⟨_,h,λgu R2 he=>by simp only[he x hxm,hx];simp⟩
            . exact h.elim
          . cases hq
        . exact h.elim
      . cases hq
    . cases hq
theorem ZZ{env:List (Nat×D)}(h:lR env op=some q){a:Nat}(ha:Operand.tmp a∈op.operands):a∈q:=by
 unfold lR at h
 split at h
 ·cases h;exact Zm7 (by assumption) ha
 ·split at h
  all_goals first
   |(cases h;done)
   |(cases h;rw[AM];simpa[Op.operands]using ha)
   |(split at h<;>first|(cases h;done)|(cases h;rw[AM];simpa[Op.operands]using ha))
   |skip
  split at h
  ·rename_i x hx
   have jC:Operand.tmp a=x:=by
    simp[Op.operands,Call.operands]at ha
    rw[<-gL,hx]at ha
    simpa using ha
   split at h<;>first|(cases h;done)|(cases h;rw[AM,jC];simp)
  ·cases h
theorem Z6u{env:List (Nat×D)}(h:lR env op=some q):r8 G op=false/\Gw op=false/\(∀t x y,op≠.store t x y)/\(∀f args dj,op≠.call ⟨.value (.func f),args,dj⟩)/\∀t,op≠.alloc t:=by
 unfold lR at h
 split at h
 ·rename_i q' hp
  obtain⟨h1,h2,h3,h4,h5⟩:=Zeh (G:=G) hp
  exact⟨h1,h2,h4,λ_ _ _=>h5 _,λt e=>by rw[e]at hp;cases hp⟩
 ·split at h<;>first|(cases h;done)|exact⟨rfl,rfl,λ_ _ _ h=>(by cases h),λ_ _ _ h=>(by cases h),λ_ h=>(by cases h)⟩
theorem Zrr(hq:lR st.env o.op=some q){K:St->Prop}(h:lV T G N M o st K):gp T o.op (cj st.env) st.rows λd R=>st.put N o.dst d R K:=by
  obtain⟨dst,op,type,pos,after,guard⟩:=o
  simp only at hq⊢
  unfold lR at hq
  split at hq
  . rename_i q' hp
    exact zw (o:=⟨dst,op,type,pos,after,guard⟩) hp h
  . split at hq
    all_goals first
      |(cases hq;done)
      |exact h
      |skip
    . rename_i op' t x y ty hn
      unfold lV at h
      simp only at h
      split at h
      . rename_i hx hy
        rw[hx]at hq;cases hq
      . rename_i hx hy
        rw[hx]at hq;cases hq
      . exact h
    . rename_i s d x hn
      unfold lV at h
      simp only at h
      split at h
      . exfalso
        unfold wo at h
        split at h
        . split at h
          . rename_i he
            split at hq
            . rename_i hx;rw[hx]at he;cases he
            . rename_i hx;rw[hx]at he;cases he
            . cases hq
          . exact h
        . exact h
      . exact h
theorem Zey(h:JS d=true):uX d=true:=by cases d<;>first|rfl|cases h
theorem Z5j{ks:List Nat}{d p:D}(hp:uX p=true)(h:d.jW ks=p):d=p:=by
 subst h
 cases d<;>first
  |rfl
  |(simp only[D.jW,D.kill,D.ez]at hp⊢;split at hp<;>first|(cases hp;done)|simp_all)
  |(simp only[D.jW,D.kill,uX]at hp⊢;rw[Qnq hp])
  |(simp[D.jW,uX]at hp;done)
theorem Zsc{env mo:List (Nat×D)}(h:lR env op=some q)(hb: ∀a∈q,uX (look env a)=true->look mo a=look env a):lR mo op=some q:=by
  have one: ∀(x:Operand),(∀a,x= .tmp a->a∈q)->uX (cj env x)=true->cj mo x=cj env x:=λx hx hs=>by
    cases x with
    |tmp a=>exact hb a (hx a rfl) hs
    |_=>rfl
  unfold lR at h⊢
  split at h
  . exact h
  . split at h
    all_goals first
      |(cases h;done)
      |exact h
      |skip
    all_goals
      split at h
      all_goals first
        |(cases h;done)
        | (rename_i hx
           cases h
           first
             |(have:=one _ (λa e=>by rw[AM,<-e];exact eU) (by rw[hx];rfl);rw[this,hx])
             |(have:=one _ (λa e=>by rw[AM,<-e];simp) (by rw[hx];rfl);rw[this,hx]))
        |skip
    split at h
    all_goals first
      |(cases h;done)
      | (rename_i hx
         cases h
         have:=one _ (λa e=>by rw[AM,<-e];exact eU) (by rw[hx];rfl);rw[this,hx])
theorem qx{t tx:TypeId}{x y:D}{K:List Nat->D->Rows->Prop}(h:Mc T M t tx x y R K):
 Mc T M t tx x y R λks d R'=>((JS x=true->ks=[]/\∀r row,R.getD r none=some row->R'.getD r none=some row)/\∀r row,R.getD r none=some row->da r ks=false->R'.getD r none=some (row.kill ks))/\K ks d R':=by
 have go:∀{e sz lL:Nat} {JT:List Nat} {es ys:ai},(JS x=true->JT=[])->CJ e sz lL R JT es ys K->CJ e sz lL R JT es ys λks d R'=>((JS x=true->ks=[]/\∀r row,R.getD r none=some row->R'.getD r none=some row)/\∀r row,R.getD r none=some row->da r ks=false->R'.getD r none=some (row.kill ks))/\K ks d R':=by
  intro e sz lL JT es ys hx h
  simp only[CJ,dd,nm]at h⊢
  have key:∀r row,R.getD r none=some row->da r JT=false->(rS JT R 0++[some (⟨false,e,sz,es.app ys⟩:Row)]).getD r none=some (row.kill JT):=λr row hr hm=>by
   have hl:r<R.length:=by
    by_cases hh:r<R.length
    ·exact hh
    ·simp only[aV,aJ (show R.length<=r by omega)]at hr;cases hr
   rw[Qps (by rw[Js];exact hl),PR,hr,Nat.zero_add,hm]
   simp
  refine⟨h.1,⟨λe=>⟨hx e,λr row hr=>?_⟩,key⟩,h.2⟩
  have:=key r row hr (by rw[hx e];rfl)
  rw[this,hx e,Z6z]
 unfold Mc at h⊢
 split at h
 ·split at h
  ·split at h
   ·rename_i jR
    simp only[dd]at h⊢
    refine⟨h.1,?_⟩
    have h:=h.2
    cases x<;>first|(exact h.elim;done)|(exact go (λ_=>rfl) h;done)|skip
    all_goals
     (try simp only at h⊢)
     split at h
     ·exact⟨h.1,go (λe=>by cases e) h.2⟩
     ·exact h.elim
   ·exact h.elim
  ·exact h.elim
 ·exact h.elim
theorem Zrq(hT:jg P T)(hG:jA P G){l:List Oper}{K:St->Prop}(h:mb T G N M ops (o::l) st K):
    ∃ks val R' iE,(∀t,look iE t=look (r6 ks st.env) t)/\(∀t,o.dst=some t->t<N)/\nD P G M ops o st.env st.rows ks val R'/\mb T G N M ops l ⟨r7 iE o.dst val,R'⟩ K/\JR P G o st.env st.rows ks val R':=by
  by_cases hL: ∃t a r ii off,o.guard=none/\o.op= .load t (.tmp a)/\look st.env a= .ptr r ii off
  . obtain⟨t,a,r,ii,off,hg,ho,ha⟩:=hL
    simp only[mb,hg,lV,ho,gp,cj,ha]at h
    obtain⟨d,h1,h2,h3⟩:=Zis h
    obtain⟨g1,g2⟩:=oM h1
    have hN: ∀(ev:Operand->D) (R2:Rows),ev (.tmp a)= .ptr r ii off->R2.getD r none=st.rows.getD r none->pL P o ev R2 d R2:=λev R2 he uL=>by
      have:=h3 R2 uL
      obtain⟨val,R',⟨rfl,rfl⟩,hO⟩:=Nk hT o ev R2 (λd' R'=>d'=d/\R'=R2) (by simp only[ho,gp,he];exact this)
      simpa [ho,Gw] using hO
    have hN2: ∀(ev:Operand->D) (R2:Rows) row (L:List (List Nat)),pC d=true->(∀kk∈L,d.ez kk=d)->ev (.tmp a)= .ptr r ii off->st.rows.getD r none=some row->R2.getD r none=some (L.foldl (λr k=>Row.kill k r) row)->pL P o ev R2 d R2:=λev R2 row L hd hL he hr uL=>by
      have:=Zr (h3 st.rows rfl) hd hL hr uL
      obtain⟨val,R',⟨rfl,rfl⟩,hO⟩:=Nk hT o ev R2 (λd' R'=>d'=d/\R'=R2) (by simp only[ho,gp,he];exact this)
      simpa [ho,Gw] using hO
    refine⟨[],d,st.rows,st.env,λt=>oK.symm,g1,?_,g2,λt' a' r' mi iH _ jn jC=> ?_,λt' b x r' mi iH _ jn=> ?_,λq _ hq=> ?_,λf args dj _ hf _=>by simp [ho]at hf,λt' _ hf=>by simp [ho]at hf,λargs dj _ hf=>by simp [ho]at hf,λargs dj x' l' _ hf=>by simp [ho]at hf⟩
    . unfold nD
      simp only[hg]
      exact AV (by rw[ho];rfl) (hN _ _ (by simp [cj,ha]) rfl)
    . rw[ho]at jn;cases jn
      rw[ha]at jC;cases jC
      exact⟨rfl,rfl,h2,hN,hN2⟩
    . rw[ho]at jn;cases jn
    . rw[ho]at hq;simp [lR,rF,cj,ha]at hq
  . by_cases hS : ∃t b x r ii off,o.guard=none/\o.op= .store t (.tmp b) x/\look st.env b= .ptr r ii off
    . obtain⟨t,b,x,r,ii,off,hg,ho,hb⟩:=hS
      simp only[mb,hg,lV,ho,gp]at h
      rw[show cj st.env (.tmp b)= .ptr r ii off by simp [cj,hb]]at h
      obtain⟨R',h1,h2,h3⟩:=Zg2 h
      obtain⟨g1,g2⟩:=oM h1
      obtain⟨val,R2,⟨rfl,rfl⟩,hO⟩:=Nk hT o (cj st.env) st.rows (λd' R2=>d'= .dead/\R2=R') (by simp only[ho,gp];rw[show cj st.env (.tmp b)= .ptr r ii off by simp [cj,hb]];exact h3)
      refine⟨[], .dead,R2,st.env,λt=>oK.symm,g1,?_,g2,λt' a' r' mi iH _ jn=> ?_,λt' b' x' r' mi iH _ jn rM=> ?_,λq _ hq=> ?_,λf args dj _ hf _=>by simp [ho]at hf,λt' _ hf=>by simp [ho]at hf,λargs dj _ hf=>by simp [ho]at hf,λargs dj x' l' _ hf=>by simp [ho]at hf⟩
      . unfold nD
        simp only[hg]
        have hO':EC P o (cj st.env) st.rows .dead R2:=by simpa [ho,Gw] using hO
        exact BN (by rw[ho];rfl) (λk hk=>by simp [da]at hk) hO'.toK
      . rw[ho]at jn;cases jn
      . rw[ho]at jn;cases jn
        rw[hb]at rM;cases rM
        exact⟨rfl,h2⟩
      . rw[ho]at hq;cases hq
    . by_cases hP : ∃q,o.guard=none/\lR st.env o.op=some q
      . obtain⟨q,hg,hq⟩:=hP
        simp only[mb,hg]at h
        have rJ:=Zrr hq h
        obtain⟨val,Jaa,Jab⟩:=vw hq rJ
        obtain⟨hW,hS',Nc,hnc,hna⟩:=Z6u (G:=G) hq
        have hN: ∀(ev:Operand->D) (R2:Rows),(∀x∈o.op.operands,ev x=cj st.env x)->pL P o ev R2 val R2:=λev R2 he=>by
          obtain⟨Jau,R',⟨rfl,rfl⟩,hO⟩:=Nk hT o ev R2 _ (Jab ev R2 he)
          simpa [hS'] using hO
        obtain⟨g1,g2⟩:=oM Jaa
        refine⟨[],val,st.rows,st.env,λt=>oK.symm,g1,?_,g2,λt' a' r' mi iH hg' jn jC=>(hL ⟨t',a',r',mi,iH,hg',jn,jC⟩).elim,λt' b' x' r' mi iH _ jn=>(Nc _ _ _ jn).elim,λq' _ FV=>⟨rfl,rfl,hN⟩,λf args dj _ hf _=>(hnc _ _ _ hf).elim,λt' _ hf=>(hna _ hf).elim,λargs dj _ hf=>by rw[hf]at hq;simp [lR,rF]at hq,λargs dj x' l' _ hf=>by rw[hf]at hq;simp [lR,rF]at hq⟩
        unfold nD
        simp only[hg]
        exact AV hW (hN _ _ (λ_ _=>rfl))
      . by_cases hC: ∃f args dj,o.guard=none/\o.op= .call ⟨.value (.func f),args,dj⟩/\(o6 G f=none/\BP G f=false)
        . obtain⟨f,args,dj,hg,ho,lU,EB⟩:=hC
          obtain⟨dst,op,type,pos,after,guard⟩:=o
          simp only at hg ho
          subst hg;subst ho
          simp only[mb,lV,lU,EB]at h
          have Ii: ∀x,oO G f=some x->x.o7=false:=λx hx=>by simpa [BP,hx] using EB
          obtain⟨val,R',x,hK,hx,hO,hN⟩:=Wo (dst:=dst) (type:=type) (pos':=pos) (after:=after) (guard:=none) (dj:=dj) hG lU h
          obtain⟨g1,g2⟩:=oM hK
          refine⟨[],_,_,st.env,λt=>oK.symm,g1,?_,g2,λt' a' r' mi iH _ jn=>(by cases jn),λt' b' x' r' mi iH _ jn=>(by cases jn),λq' _ FV=>(by cases FV),λ_ _ _ _ _ _=>rfl,λt' _ hf=>(by cases hf),λargs dj _ hf=>(by cases hf),λargs dj x' l' _ hf=>(by cases hf)⟩
          unfold nD
          cases hr:x.refs with
          |nil=>exact AV (by simp only[r8,hx,hr,Ii x hx]) (hN hr)
          |cons b bs=>exact BN (by simp only[r8,hx,hr]) (λk hk=>by simp [da]at hk) hO.toK
        . by_cases hAl: ∃t,o.guard=none/\o.op= .alloc t
          . obtain⟨t,hg,ho⟩:=hAl
            obtain⟨dst,op,type,pos,after,guard⟩:=o
            simp only at hg ho
            subst hg;subst ho
            simp only[mb,lV,gp]at h
            split at h
            . rename_i ht
              simp only[dd,aE,Kx]at h
              obtain⟨⟨h0,hl⟩,h⟩:=h
              obtain⟨g1,g2⟩:=oM h
              obtain⟨arr,hA⟩:=Zsy (o:=⟨dst, .alloc t,type,pos,after,none⟩) hT rfl ht (lE h0) (bE hl)
              refine⟨[],_,_,st.env,λt=>oK.symm,g1,?_,g2,λt' a' r' mi iH _ jn=>(by cases jn),λt' b' x' r' mi iH _ jn=>(by cases jn),λq' _ FV=>(by cases FV),λ_ _ _ _ hf=>(by cases hf),λt' _ hf=>⟨rfl,_,arr,hA,rfl,rfl⟩,λargs dj _ hf=>(by cases hf),λargs dj x' l' _ hf=>(by cases hf)⟩
              unfold nD
              exact AV rfl (P2 λc w a hm SD eh=>⟨_,rfl,Zom hT ht (lE h0) (bE hl) st.rows.length c w⟩)
            . exact h.elim
          by_cases hAp: ∃args dj,o.guard=none/\o.op= .call ⟨.builtin .append,args,dj⟩
          . obtain⟨args,dj,hg,ho⟩:=hAp
            obtain⟨dst,op,type,pos,after,guard⟩:=o
            simp only at hg ho
            subst hg;subst ho
            simp only[mb,lV]at h
            split at h
            . rename_i x y t tx pd ht
              have JU:args= #[x,y]:=by rw[<-bW (xs:=args),pd]
              have ui:dj= #[t,tx]:=by rw[<-bW (xs:=dj),ht]
              subst JU;subst ui
              have h':=qx h
              obtain⟨ks,R',⟨⟨Jac,CL⟩,hK⟩,hM,hr⟩:=Zq5 (ty:=type) hT h'
              rw[Ih]at hK
              obtain⟨h1,h2⟩:=oM hK
              refine⟨ks,_,_,_,λt=>rfl,h1,?_,h2,λt' a' r' mi iH _ jn=>(by cases jn),λt' b' x' r' mi iH _ jn=>(by cases jn),λq' _ FV=>(by cases FV),λ_ _ _ _ hf=>(by cases hf),λt' _ hf=>(by cases hf),λargs dj _ hf r row hr hm=>CL r row hr hm,λargs dj x' l' _ hf ha he=> ?_⟩
              rotate_left
              . cases hf
                have hx:x= .tmp x':=by
                  have:=congrArg List.head? ha
                  simpa using this
                subst hx
                exact Jac he
              unfold nD
              refine BN rfl hM λc w a hm hb hR eh K' Q pZ=> ?_
              obtain⟨v',w',c',ij,hn,jZ,hv⟩:=hr c w _ _ hm hb hR (eh x (by simp [Op.operands,Call.operands])) (eh y (by simp [Op.operands,Call.operands]))
              refine Gx ?_ (pZ v' w' c' hn jZ hv)
              simp only[execOp,resolve,Sem.run_bind,Sem.run_pure,Result.andThen_ok,invoke,builtin]
              have:(#[x,y]:Array Operand).map a.eval= #[a.eval x,a.eval y]:=by simp
              rw[this,ij];rfl
            . exact h.elim
          obtain⟨ks,val,R',iE,h0,h1,h2,h3⟩:=V6 hT hG h
          exact⟨ks,val,R',iE,h0,h1,h2,h3,λt a r ii off hg ho ha=>(hL ⟨t,a,r,ii,off,hg,ho,ha⟩).elim,λt b x r ii off hg ho hb=>(hS ⟨t,b,x,r,ii,off,hg,ho,hb⟩).elim,λq hg hq=>(hP ⟨q,hg,hq⟩).elim,λf args dj hg ho lU=>(hC ⟨f,args,dj,hg,ho,lU⟩).elim,λt hg ho=>(hAl ⟨t,hg,ho⟩).elim,λargs dj hg ho=>(hAp ⟨args,dj,hg,ho⟩).elim,λargs dj x l' hg ho ha he=>(hAp ⟨args,dj,hg,ho⟩).elim⟩
theorem Ra(h:pC d=true):uX d=true:=by cases d<;>first|rfl|exact h|cases h
theorem zx{ks:List Nat}(h:d.jW ks=.ptr r i off):d=.ptr r i off:=Z5j rfl h
theorem JV{i a k:Nat}(h:kZ ops i a=true)(hk:i<=k)(ho:ops[k]?=some o):o.dst≠some a:=by
 intro hd
 have hm:o∈ops.toList.drop i:=by
  have h1:(ops.toList.drop i)[k-i]?=some o:=by
   rw[List.getElem?_drop,show i+(k-i)=k by omega];simpa using ho
  exact fL h1
 have:=List.all_eq_true.1 h o hm
 simp[hd]at this
theorem Zrn{f:FuncId}(h:(match o6 G f with|some _=>true|none=>BP G f)=false):o6 G f=none/\BP G f=false:=by
 cases hg:o6 G f with
 |none=>rw[hg]at h;exact⟨rfl,h⟩
 |some k=>rw[hg]at h;cases h
def JW(ops:Array Oper)(env:List (Nat×D))(i:Nat)(o:Oper)(q:List Nat):Prop:=
 (∀a∈q,kZ ops i a=true/\uX (look env a)=true)/\∀t,o.dst=some t->kZ ops (i+1) t=true/\uX (look env t)=true
theorem Rb{env:List (Nat×D)}(hx:ops[i]?=some x)(hy:ops[j]?=some y)(h:MA G ops env i j=true):
 (∃t a t' b z r r' ii off mi iH,x.guard=none/\y.guard=none/\x.op=.load t (.tmp a)/\y.op=.store t' (.tmp b) z/\kZ ops i a=true/\kZ ops j b=true/\look env a=.ptr r ii off/\look env b=.ptr r' mi iH/\r≠r')\/
 (∃q,x.guard=none/\y.guard=none/\lR env x.op=some q/\(∀a∈q,kZ ops i a=true)/\((∃t' b z r' mi iH,y.op=.store t' (.tmp b) z/\kZ ops j b=true/\look env b=.ptr r' mi iH)\/∃f args dj,y.op=.call ⟨.value (.func f),args,dj⟩/\(o6 G f=none/\BP G f=false)))\/
 (∃q,x.guard=none/\lR env x.op=some q/\JW ops env i x q)\/
 (∃t a r ii off args dj x0 l,x.guard=none/\y.guard=none/\x.op=.load t (.tmp a)/\kZ ops i a=true/\look env a=.ptr r ii off/\y.op=.call ⟨.builtin .append,args,dj⟩/\args.toList=.tmp x0::l/\kZ ops j x0=true/\JS (look env x0)=true)\/
 (∃t a r ii off args dj td,x.guard=none/\y.guard=none/\x.op=.load t (.tmp a)/\kZ ops i a=true/\look env a=.ptr r ii off/\y.op=.call ⟨.builtin .append,args,dj⟩/\x.dst=some td/\kZ ops (i+1) td=true/\pC (look env td)=true):=by
 unfold MA at h
 simp only[hx,hy]at h
 split at h
 ·rename_i t a t' b z h1 h2 h3 h4
  simp only[aE]at h
  obtain⟨g1,g2,g3⟩:=h
  split at g3
  ·rename_i r ii off r' mi iH e1 e2
   refine .inl ⟨t,a,t',b,z,r,r',ii,off,mi,iH,h1,h2,h3,h4,g1,g2,e1,e2,λe=>?_⟩
   subst e
   simp at g3
  ·rename_i sz es k off r' mi iH e1 e2
   exact .inr (.inl ⟨[a],h1,h2,by rw[h3];simp[lR,rF,cj,e1,Q6],λa' ha=>by simp at ha;subst ha;exact g1,.inl ⟨t',b,z,r',mi,iH,h4,g2,e2⟩⟩)
  ·cases g3
 ·rename_i op t' b z h1 h2 h4 _
  split at h
  ·rename_i q hq
   simp only[aE]at h
   obtain⟨g1,g2,g3⟩:=h
   split at g3
   ·rename_i r' mi iH e2
    exact .inr (.inl ⟨q,h1,h2,hq,λa ha=>List.all_eq_true.1 g1 a ha,.inl ⟨t',b,z,r',mi,iH,h4,g2,e2⟩⟩)
   ·cases g3
  ·cases h
 ·rename_i op f dj h1 h2 h4
  split at h
  ·cases h
  ·rename_i Is
   have Jad:=Zrn Is
   split at h
   ·rename_i q hq
    exact .inr (.inl ⟨q,by assumption,by assumption,hq,λa ha=>List.all_eq_true.1 h a ha,.inr ⟨_,_,_,by assumption,Jad⟩⟩)
   ·cases h
 ·rename_i op args dj h1 h2 h4 _
  split at h
  ·rename_i q hq
   simp only[aE]at h
   refine .inr (.inr (.inl ⟨q,by assumption,hq,λa ha=>?_,λt ht=>?_⟩))
   ·have:=List.all_eq_true.1 h.1 a ha
    simpa only[aE]using this
   ·have:=h.2
    simp only[ht,aE]at this
    exact this
  ·have Rc:∀{d:D},uY d=true->∃r ii off,d=.ptr r ii off:=fun{d} k=>by
    cases d<;>first|(cases k;done)|exact⟨_,_,_,rfl⟩
   rcases Bool.or_eq_true_iff.1 h with h|h
   ·unfold Dn at h
    split at h
    ·rename_i t a x0 l hxo hl
     simp only[aE]at h
     obtain⟨k1,k2,k3,k4⟩:=h
     obtain⟨r,ii,off,hr⟩:=Rc k3
     exact .inr (.inr (.inr (.inl ⟨t,a,r,ii,off,dj,h1,x0,l,by assumption,by assumption,hxo,k1,hr,by assumption,hl,k2,k4⟩)))
    ·cases h
   ·unfold Dp at h
    split at h
    ·rename_i t a td hxo tS
     simp only[aE]at h
     obtain⟨k1,k2,k3,k4⟩:=h
     obtain⟨r,ii,off,hr⟩:=Rc k2
     exact .inr (.inr (.inr (.inr ⟨t,a,r,ii,off,dj,h1,td,by assumption,by assumption,hxo,k1,hr,by assumption,tS,k3,k4⟩)))
    ·cases h
 ·cases h
theorem Zm1(hy:ops[j]?=some y)(h:uZ ops j=true):(∃t,y.guard=none/\y.op=.alloc t)/\∀u,y.dst=some u->∀k o',k≠j->ops[k]?=some o'->o'.dst≠some u:=by
 unfold uZ at h
 simp only[hy]at h
 split at h
 ·rename_i t h1 h2
  refine⟨⟨t,h1,h2⟩,λu hu k o' hk dx hd=>?_⟩
  simp only[hu]at h
  have bd:=(Array.getElem?_eq_some_iff.1 dx).1
  have:=List.all_eq_true.1 h k (List.mem_range.2 bd)
  simp only[dx,aW,hd,aT]at this
  rcases this with this|this
  ·exact hk (bE this)
  ·simp at this
 ·cases h
theorem FW{env:List (Nat×D)}(h:Rd G ops env=true)(Kh:i<j)(hx:ops[i]?=some x)(hy:ops[j]?=some y):
 (x.apart ops y=true\/((Region.before ops).getD j 0).testBit i=true)/\((lh G x.op=true/\lh G y.op=true)\/((Region.before ops).getD j 0).testBit i=true\/MA G ops env i j=true\/((∃t,y.guard=none/\y.op=.alloc t)/\∀u,y.dst=some u->∀k o',k≠j->ops[k]?=some o'->o'.dst≠some u)):=by
 have hj:=(Array.getElem?_eq_some_iff.1 hy).1
 have h1:=List.all_eq_true.1 h j (List.mem_range.2 hj)
 simp only[aE]at h1
 have h2:=List.all_eq_true.1 h1.2 i (List.mem_range.2 Kh)
 unfold wX at h2
 simp only[hx,hy,aE,aT]at h2
 exact⟨h2.1,h2.2.elim (λg=>g.elim .inl (λg=>.inr (.inl g))) (λg=>g.elim (λg=>.inr (.inr (.inl g))) (λg=>.inr (.inr (.inr (Zm1 hy g)))))⟩
theorem Zjz{env:List (Nat×D)}(h:Rd G ops env=true)(hy:ops[j]?=some y):∀e∈y.after,Region.binds .any e=true->e.on<j:=by
 have hj:=(Array.getElem?_eq_some_iff.1 hy).1
 have h1:=List.all_eq_true.1 h j (List.mem_range.2 hj)
 simp only[aE,hy]at h1
 intro e he hb
 have:=Array.all_eq_true'.1 h1.1 e he
 simp only[hb,Bool.not_true,Bool.false_or]at this
 exact lE this
theorem xas{env:List (Nat×D)}{ks:List Nat}{val:D}{R':Rows}(hi:ops[i]?=some o)
 (hm:Mem c w) (hb:c.base<=w.heap.size) (hR:∀r,c.R r=R.getD r none) (eh:∀t∈o.looksAt ops,Rep c w (look env t) (a.tmps.getD t undef)) (hG:nD P G M ops o env R ks val R') {K:Act->World->Prop} {Q:Exit->Act->World->Prop}
 (hK:∀v w' c',(∀k,da k ks=true->M<=k)->jK ks c w c' w'->(∀r,c'.R r=R'.getD r none)->Rep c' w' val v->K (a.put o.dst v) w'):wpOp P ops Q i K a w:=by
 have hx:∀x∈o.op.operands,Rep c w (cj env x) (a.eval x):=λx hx=>by
  cases x with
  |tmp t=>
   refine eh t ?_
   unfold Oper.looksAt
   exact eS _ (List.mem_filterMap.2 ⟨.tmp t,by simpa using hx,rfl⟩)
  |const v=>
   simp only[cj,Act.eval]
   cases hv:Gq v with
   |none=>trivial
   |some d=>exact Nf hv c w
  |global g=>trivial
  |func f=>exact Km f
 have run:pH P G M o (cj env) R ks val R'->o.nk P a w K Q:=λhX=>hX.toK.2 c w a hm hb hR hx K Q λv w' c' h1 h2 h3=>hK v w' c' hX.toK.1 h1 h2 h3
 have skip:ks=[]->val=.dw []->R'=R->K (a.put o.dst undef) w:=λe0 e1 e2=>by
  subst e0;subst e1;subst e2
  exact hK undef w c (λk hk=>by simp[da]at hk) (lT.toK ⟨hm,ja.refl _ _,Fr.refl _ _,λb hb=>.inl hb,λr row hr v=>.inl ⟨⟨row,hr⟩,v,rfl⟩⟩) hR (SE _ _)
 unfold wpOp
 simp only[hi]
 unfold nD at hG
 cases hg:o.guard with
 |none=>
  simp only[hg]at hG
  have hw:Region.wanted o (yielded ops a.tmps)=true:=by simp[Region.wanted,hg]
  rw[if_pos hw]
  exact run hG
 |some jw=>
  obtain⟨j,want⟩:=jw
  simp only[hg]at hG
  obtain⟨g,h2,hG⟩:=hG
  have hr:=eh g (by
   unfold Oper.looksAt
   refine eX _ ?_
   simp only[hg,h2];simp)
  rcases hG with⟨b,h3,h4⟩|⟨h3,e0,e1,e2⟩
  rotate_left
  ·rw[h3]at hr
   rw[if_neg (by rw[SF (o:=o) hg h2 hr];simp)]
   exact skip e0 e1 e2
  rw[h3]at hr
  have hw:=SG (o:=o) hg h2 hr
  by_cases e:b=want
  ·rw[if_pos e]at h4
   rw[if_pos (by rw[hw];simpa using e)]
   exact run h4
  ·rw[if_neg e]at h4
   rw[if_neg (by rw[hw];simpa using e)]
   exact skip h4.1 h4.2.1 h4.2.2
structure Vf(P:Program)(G:List ba)(N M:Nat)(ops:Array Oper)(s:Nat->St)(ks:Nat->List Nat)(val:Nat->D):Prop extends Chain P G N M ops s ks val where
 mI:∀(i:Nat) (o:Oper),ops[i]?=some o->JR P G o (s i).env (s i).rows (ks i) (val i) (s (i+1)).rows
theorem Zkf{P:Program}{T:iu}(hT:jg P T){G:List ba}(hG:jA P G){N M:Nat}{ops:Array Oper}{K:St->Prop}:∀(l:List Oper) (k:Nat) (st:St),ops.toList.drop k=l->mb T G N M ops l st K->
 ∃ (s:Nat->St) (ks:Nat->List Nat) (val:Nat->D),s k=st/\K (s (k+l.length))/\(∀(i:Nat) (o:Oper),k<=i->ops[i]?=some o->nD P G M ops o (s i).env (s i).rows (ks i) (val i) (s (i+1)).rows)/\
  (∀(i:Nat) (o:Oper) (t:Nat),k<=i->ops[i]?=some o->look (s (i+1)).env t=if o.dst=some t then val i else look (r6 (ks i) (s i).env) t)/\(∀(i:Nat) (o:Oper) (t:Nat),k<=i->ops[i]?=some o->o.dst=some t->t<N)/\
  (∀(i:Nat) (o:Oper),k<=i->ops[i]?=some o->JR P G o (s i).env (s i).rows (ks i) (val i) (s (i+1)).rows)
 |[],k,st,hk,h=>by
  have hlen:ops.size<=k:=by
   have:=congrArg List.length hk
   simp at this;omega
  have no:∀(i:Nat) (o:Oper),k<=i->ops[i]?=some o->False:=λi o hi ho=>by
   have:=(Array.getElem?_eq_some_iff.1 ho).1;omega
  exact⟨λ_=>st,λ_=>[],λ_=>.dead,rfl,h,λi o hi ho=>(no i o hi ho).elim,λi o t hi ho=>(no i o hi ho).elim,λi o t hi ho=>(no i o hi ho).elim,λi o hi ho=>(no i o hi ho).elim⟩
 |o ::l,k,st,hk,h=>by
  have bd:k<ops.toList.length:=by
   by_cases bd:k<ops.toList.length
   ·exact bd
   ·rw[List.drop_eq_nil_of_le (by omega)]at hk;cases hk
  rw[List.drop_eq_getElem_cons bd]at hk
  have ho:ops[k]?=some o:=by
   have:=(List.cons.inj hk).1
   rw[<-this]
   simp at bd
   simp[bd]
  obtain⟨kk,v,R',iE,h1,h2,h3,h4,h5⟩:=Zrq hT hG h
  obtain⟨s,ks,val,g1,g2,g3,g4,g5,g6⟩:=Zkf hT hG l (k+1) _ (List.cons.inj hk).2 h4
  refine⟨λi=>if i=k then st else s i,λi=>if i=k then kk else ks i,λi=>if i=k then v else val i,by simp,?_,λi p hi hp=>?_,λi p t hi hp=>?_,λi p t hi hp hd=>?_,λi p hi hp=>?_⟩
  ·simp only[List.length_cons]
   rw[if_neg (by omega),show k+(l.length+1)=k+1+l.length by omega]
   exact g2
  ·by_cases e:i=k
   ·subst e
    rw[ho]at hp;cases hp
    simp only[if_true,show¬i+1=i by omega,if_false,g1]
    exact h3
   ·simp only[if_neg e,if_neg (show¬i+1=k by omega)]
    exact g3 i p (by omega) hp
  ·by_cases e:i=k
   ·subst e
    rw[ho]at hp;cases hp
    simp only[if_true,show¬i+1=i by omega,if_false,g1]
    cases tS:o.dst with
    |none=>simp[r7,h1]
    |some u=>simp only[r7,AT,Option.some.injEq,h1]
   ·simp only[if_neg e,if_neg (show¬i+1=k by omega)]
    exact g4 i p t (by omega) hp
  ·by_cases e:i=k
   ·subst e
    rw[ho]at hp;cases hp
    exact h2 t hd
   ·exact g5 i p t (by omega) hp hd
  ·by_cases e:i=k
   ·subst e
    rw[ho]at hp;cases hp
    simp only[if_true,show¬i+1=i by omega,if_false,g1]
    exact h5
   ·simp only[if_neg e,if_neg (show¬i+1=k by omega)]
    exact g6 i p (by omega) hp
section
variable {P:Program} {G:List ba} {N M:Nat} {ops:Array Oper} {s:Nat->St} {ks:Nat->List Nat} {val:Nat->D} (hc:Vf P G N M ops s ks val)
include hc
theorem Em{i a r ii off:Nat}(hn:kZ ops i a=true)(h:look (s ops.size).env a=.ptr r ii off):∀{k:Nat},i<=k->k<=ops.size->look (s k).env a=.ptr r ii off:=by
 intro k oh hk
 obtain⟨n,QQ⟩:∃n,ops.size=k+n:=⟨ops.size-k,by omega⟩
 have:∀n k,i<=k->k+n<=ops.size->look (s (k+n)).env a=.ptr r ii off->look (s k).env a=.ptr r ii off:=by
  intro n
  induction n with
  |zero=>intro k _ _ h;exact h
  |succ n ih=>
   intro k h1 h2 h3
   have ho:ops[k]?=some ops[k]:=aU (by omega)
   have h4:=ih (k+1) (by omega) (by omega) (by rw[show k+1+n=k+(n+1) by omega];exact h3)
   rw[hc.env k _ a ho,if_neg (JV hn h1 ho),BO]at h4
   exact zx h4
 exact this n k oh (by omega) (by rw[<-QQ];exact h)
theorem En{i a:Nat}(hn:kZ ops i a=true)(h:uX (look (s ops.size).env a)=true):∀{k:Nat},i<=k->k<=ops.size->look (s k).env a=look (s ops.size).env a:=by
 intro k oh hk
 obtain⟨n,QQ⟩:∃n,ops.size=k+n:=⟨ops.size-k,by omega⟩
 have:∀n k,i<=k->k+n<=ops.size->∀p,uX p=true->look (s (k+n)).env a=p->look (s k).env a=p:=by
  intro n
  induction n with
  |zero=>intro k _ _ p _ h;exact h
  |succ n ih=>
   intro k h1 h2 p hp h3
   have ho:ops[k]?=some ops[k]:=aU (by omega)
   have h4:=ih (k+1) (by omega) (by omega) p hp (by rw[show k+1+n=k+(n+1) by omega];exact h3)
   rw[hc.env k _ a ho,if_neg (JV hn h1 ho),BO]at h4
   exact Z5j hp h4
 exact this n k oh (by omega) _ h (by rw[<-QQ])
theorem Zdg(h:lR (s ops.size).env op=some q)(hq:∀a∈q,kZ ops i a=true)(h1:i<=k)(h2:k<=ops.size):lR (s k).env op=some q:=
 Zsc h λa ha hs=>En hc (hq a ha) hs h1 h2
theorem Qzd{dt:Nat->Bool}{c:Nat}{t:Nat}:∀{n:Nat},(∀i o,i<n->ops[c+i]?=some o->o.dst=some t->dt (c+i)=false)->jb ops s val dt c n t=look (s c).env t
 |0,_=>rfl
 |n + 1,h=>by
  simp only[jb]
  rw[if_neg]
  ·exact Qzd (λi o hi=>h i o (by omega))
  ·rintro⟨g1,g2⟩
   cases hk:ops[c+n]? with
   |none=>rw[hk]at g2;cases g2
   |some o=>
    rw[hk]at g2
    rw[h n o (by omega) hk g2]at g1;cases g1
theorem Zhi{dt:Nat->Bool}{c d:Nat}{t:Nat}(hq:∀(i:Nat) (o:Oper),c<=i->i<d->ops[i]?=some o->lh G o.op=true)(hd:d<=ops.size):∀{n:Nat},c+n<=d->(∀i o,i<n->ops[c+i]?=some o->o.dst=some t->dt (c+i)=true)->jb ops s val dt c n t=look (s (c+n)).env t
 |0,_,_=>rfl
 |n +1,hn,hl=>by
  have ho:ops[c+n]?=some ops[c+n]:=aU (by omega)
  simp only[jb,ho,aW]
  rw[show c+(n+1)=(c+n)+1 by omega,hc.toChain.Eu ho (hq _ _ (by omega) (by omega) ho) t]
  by_cases pw:ops[c+n].dst=some t
  ·rw[if_pos ⟨hl n _ (by omega) ho pw,pw⟩,if_pos pw]
  ·rw[if_neg (λg=>pw g.2),if_neg pw]
   exact Zhi hq hd (by omega) (λi o hi=>hl i o (by omega))
theorem Zbf{dt:Nat->Bool}{c d:Nat}(hq:∀(i:Nat) (o:Oper),c<=i->i<d->ops[i]?=some o->lh G o.op=true)(hd:d<=ops.size):∀{n:Nat},c+n<=d->(∀i,i<n->dt (c+i)=true\/(s (c+i+1)).rows=(s (c+i)).rows)->∀r,ky s dt c n r=(s (c+n)).rows.getD r none
 |0,_,_,r=>rfl
 |n + 1,hn,hl,r=>by
  simp only[ky]
  rw[show c+(n+1)=c+n+1 by omega]
  have hlen:=Kk hc.toChain hq hd (show c<=c+n by omega) (show c+n<=c+n+1 by omega) (by omega)
  have ih:=Zbf hq hd (n:=n) (by omega) (λi hi=>hl i (by omega)) r
  rcases hl n (by omega)with h|h
  ·simp only[h,true_and]
   split
   ·rfl
   ·rw[ih]
    by_cases h2:r<(s (c+n)).rows.length
    ·exact(Kl hc.toChain hq hd (by omega) (by omega) (by omega) h2).symm
    ·simp only[aV]
     rw[aJ (by omega),aJ (by omega)]
  ·rw[if_neg (by rw[h];omega),ih,h]
theorem Zjo{dt:Nat->Bool}{c d:Nat}(hq:∀(i:Nat) (o:Oper),c<=i->i<d->ops[i]?=some o->lh G o.op=true)(hd:d<=ops.size){r:Nat}(hr:r<(s c).rows.length):∀{n:Nat},c+n<=d->ky s dt c n r=(s c).rows.getD r none
 |0,_=>rfl
 |n+1,hn=>by
  simp only[ky]
  have hlen:=Kk hc.toChain hq hd (show c<=c by omega) (show c<=c+n by omega) (by omega)
  rw[if_neg (by omega)]
  exact Zjo hq hd hr (by omega)
end
structure te(w0:World)(cx:Ctx)(w:World)(b:Nat)(arr:Array Value)(ty:TypeId):Prop where
 jD:w0.heap.size<=b
 lt:b<w.heap.size
 here:w.heap[b]?=some (.cells arr ty (0,0))
 fe:¬cx.I b
 row:∀r row,cx.R r=some row->¬cx.V r->cx.ρ r≠b
theorem te.dv{ks:List Nat}{ty:TypeId}(h:te w0 c w b arr ty)(n:jK ks c w c' w'):te w0 c' w' b arr ty:=by
 refine⟨h.jD,bM h.lt n.fr.size,(n.fr.heap b h.lt fun⟨r,x,h1,h2,h3⟩=>h.row r x h1 h2 h3).trans h.here,λhb=>?_,λr row hr hv e=>?_⟩
 ·rcases n.fe b hb with g|⟨s,x,_,g1,g2,g3⟩|g
  ·exact h.fe g
  ·exact h.row s x g1 g2 g3
  ·have:=h.lt;omega
 ·rcases n.om r row hr hv with⟨⟨x,g1⟩,g2,g3⟩|⟨s,x,_,g1,g2,g3⟩|g
  ·exact h.row r x g1 g2 (by rw[<-g3];exact e)
  ·exact h.row s x g1 g2 (by rw[<-g3];exact e)
  ·have:=h.lt;omega
theorem yx(h:o.dst≠some u):(a.put o.dst v).tmps.getD u undef=a.tmps.getD u undef:=by
 cases ho:o.dst with
 |none=>simp[Act.put]
 |some x=>
  have gq:x≠u:=λe=>h (by rw[ho,e])
  simp[Act.put,aZ gq]
theorem yU{dst:Option Tmp}(h:dst=some u)(bd:u<a.tmps.size):(a.put dst v).tmps.getD u undef=v:=by
 subst h
 simp[Act.put,aY,bd]
def MB(P:Program)(ops:Array Oper)(s:Nat->St)(val:Nat->D)(w0:World)(cx:Ctx)(w:World)(a:Act)(i b:Nat):Prop:=
 ∃ o t row arr,ops[i]?=some o/\o.guard=none/\o.op=.alloc t/\Ve P o row arr/\val i=.ptr (s i).rows.length 0 0/\(s (i+1)).rows=(s i).rows++[some row]/\te w0 cx w b arr row.ty/\
  (∀u,o.dst=some u->a.tmps.getD u undef=.pointer (some ⟨b,0,none⟩))/\∀u,o.dst=some u->∀k o',k≠i->ops[k]?=some o'->o'.dst≠some u
theorem MB.dv{ks:List Nat}(h:MB P ops s val w0 c w a k b)(n:jK ks c w c' w')(oh:i≠k)(ho:ops[i]?=some o):MB P ops s val w0 c' w' (a.put o.dst v) k b:=by
 obtain⟨o',t,row,arr,g1,g2,g3,g4,g5,g6,g7,g8,g9⟩:=h
 exact⟨o',t,row,arr,g1,g2,g3,g4,g5,g6,g7.dv n,λu hu=>by rw[yx (g9 u hu i o oh ho)];exact g8 u hu,g9⟩
theorem Qs4(hm:Mem c w)(o:Obj):ja c w c (w.alloc o):=
 ⟨rfl,aX _,λb hb=>⟨hb,Al w o b (hm.fe b hb).1⟩,λr x hr=>⟨x,hr,rfl,rfl,rfl,rfl,rfl,Iff.rfl,λnv arr ha=>⟨arr,by rw[Al w o _ (hm.lt hr nv)];exact ha,rfl⟩⟩⟩
theorem Qzc(w:World)(o:Obj):(w.alloc o).heap.size=w.heap.size+1:=by show(w.heap.push o).size=_;simp
theorem Zt(hm:Mem c w)(o:Obj):Mem c (w.alloc o):=
 ⟨λr row hr=>tz (Qs4 hm o) rfl Iff.rfl (λnv=>Al w o _ (hm.lt hr nv)) (hm.row r row hr),hm.inj,(λb hb=>⟨by have:=(hm.fe b hb).1;rw[Qzc];omega,(hm.fe b hb).2⟩),by have:=hm.top;rw[Qzc];omega,hm.jU.mono (Qs4 hm o).I⟩
theorem Zkh(hk:c.R k=none)(row:Row)(b:Nat):ja c w (c.add k row b) w:=by
 refine⟨rfl,aX _,λb hb=>⟨hb,rfl⟩,λr x hr=>?_⟩
 have gq:r≠k:=λe=>by rw[e,hk]at hr;cases hr
 exact⟨x,by simp[Ctx.add,gq,hr],rfl,rfl,rfl,rfl,by simp[Ctx.add,gq],by simp[Ctx.add,gq],λnv arr ha=>⟨arr,ha,rfl⟩⟩
theorem qat(hm:Mem c w)(hk:c.R k=none)(hA:Ve P o row arr)(hl:te w0 c w b arr row.ty):Mem (c.add k row b) w:=by
 have hg:=Zkh (w:=w) hk row b
 have jD:∀r x,r≠k->(c.add k row b).R r=some x->c.R r=some x/\(c.add k row b).ρ r=c.ρ r/\((c.add k row b).V r↔c.V r):=λr x e h=>⟨by simpa[Ctx.add,e]using h,by simp[Ctx.add,e],by simp[Ctx.add,e]⟩
 refine⟨λr x hr=>?_,λr s x y hr hs v1 v2 he=>?_,λb' hb=>⟨(hm.fe b' hb).1,λr x hr v=>?_⟩,hm.top,hm.jU⟩
 ·by_cases e:r=k
  ·subst e
   simp only[Ctx.add,if_true,Option.some.injEq]at hr
   subst hr
   obtain⟨e,h1,h2,h3,h4⟩:=hA.cells
   refine .inr ⟨by simp[Ctx.add],arr,by simp only[Ctx.add,if_true];exact hl.here,hA.sz,?_⟩
   rw[if_pos hA.box]
   exact⟨e,h1,h2,h3,h4 _ _⟩
  ·obtain⟨g1,g2,g3⟩:=jD r x e hr
   exact tz hg g2 g3 (λ_=>rfl) (hm.row r x g1)
 ·by_cases e1:r=k<;>by_cases e2:s=k
  ·rw[e1,e2]
  ·obtain⟨g1,g2,g3⟩:=jD s y e2 hs
   exfalso
   refine hl.row s y g1 (λe=>v2 (g3.2 e)) ?_
   rw[<-g2,<-he,e1];simp[Ctx.add]
  ·obtain⟨g1,g2,g3⟩:=jD r x e1 hr
   exfalso
   refine hl.row r x g1 (λe=>v1 (g3.2 e)) ?_
   rw[<-g2,he,e2];simp[Ctx.add]
  ·obtain⟨g1,g2,g3⟩:=jD r x e1 hr
   obtain⟨k1,k2,k3⟩:=jD s y e2 hs
   exact hm.inj r s x y g1 k1 (λe=>v1 (g3.2 e)) (λe=>v2 (k3.2 e)) (by rw[<-g2,<-k2];exact he)
 ·by_cases e:r=k
  ·subst e
   simp only[Ctx.add,if_true]
   intro e;subst e
   exact hl.fe hb
  ·obtain⟨g1,g2,g3⟩:=jD r x e hr
   rw[g2];exact(hm.fe b' hb).2 r x g1 (λe=>v (g3.2 e))
def Re(ops:Array Oper)(env:List (Nat×D))(i:Nat)(o:Oper):Prop:=∃td,o.dst=some td/\kZ ops (i+1) td=true/\pC (look env td)=true
def Rf(ops:Array Oper)(s:Nat->St)(ks:Nat->List Nat)(i c:Nat):Prop:=
 (∃o t a r ii off row ao,ops[i]?=some o/\o.guard=none/\o.op=.load t (.tmp a)/\kZ ops i a=true/\look (s ops.size).env a=.ptr r ii off/\(s i).rows.getD r none=some row/\(s c).rows.getD r none=some ao/\((ao=row/\∀k,i<k->k<c->ks k=[])\/(Re ops (s ops.size).env i o/\∃L:List (List Nat),ao=L.foldl (λr k=>Row.kill k r) row/\∀kk∈L,∃j,i<j/\j<c/\kk=ks j)))\/
 (∃o q,ops[i]?=some o/\o.guard=none/\lR (s ops.size).env o.op=some q/\(∀a∈q,kZ ops i a=true)/\((∀k,i<k->k<c->ks k=[])\/JW ops (s ops.size).env i o q))
structure Inv2(P:Program)(G:List ba)(N M:Nat)(ops:Array Oper)(s:Nat->St)(ks:Nat->List Nat)(val:Nat->D)(c0:Ctx)(w0:World)(dt:Nat->Bool)(a:Act)(w:World)(c d:Nat):Prop where
 cd:c<=d
 dn:d<=ops.size
 pre:∀i,i<c->dt i=true\/Rf ops s ks i c
 quiet:∀(i:Nat) (o:Oper),c<=i->i<d->ops[i]?=some o->lh G o.op=true
 wr:∀(o:Oper),ops[d]?=some o->lh G o.op=false
 closed:∀j,dt j=true->∀(o:Oper),ops[j]?=some o->∀e∈o.after,Region.binds .any e=true->dt e.on=true
 size:N<=a.tmps.size
 defers:mf w0.heap.size w a.defers
 fw:c0.base<=w0.heap.size
 gr:∀r row,c0.R r=some row->r<M
 ctx:∃(cx:Ctx) (B:Nat->Nat),Mem cx w/\(∀r,cx.R r=ky s dt c (d-c) r)/\(∀t,(∀k o,k<c->dt k=false->ops[k]?=some o->o.dst≠some t)->(∀k o,d<=k->dt k=true->ops[k]?=some o->o.dst≠some t)->Rep cx w (jb ops s val dt c (d-c) t) (a.tmps.getD t undef))/\Ab c0 w0 cx w/\
  (∀i,d<=i->dt i=true->MB P ops s val w0 cx w a i (B i))/\(∀i j,d<=i->d<=j->dt i=true->dt j=true->B i=B j->i=j)
theorem Vg{t:Nat}(hs:N<=a.tmps.size)(hd:∀u,o.dst=some u->u<N)(h1:o.dst=some t->Rep c' w' d v)(h2:o.dst≠some t->Rep c' w' d (a.tmps.getD t undef)):Rep c' w' d ((a.put o.dst v).tmps.getD t undef):=by
 cases ho:o.dst with
 |none=>simpa[Act.put]using h2 (by rw[ho];simp)
 |some u=>
  by_cases e:u=t
  ·subst e
   have hu:u<a.tmps.size:=bM (hd u ho) hs
   simpa[Act.put,aY,hu]using h1 ho
  ·have:=h2 (by rw[ho];intro h;exact e (Option.some.inj h))
   simpa[Act.put,aZ e]using this
theorem Rg{ks:Nat->List Nat}(hc:Vf P G N M ops s ks val){c d:Nat}
 (hq:∀(i:Nat) (o:Oper),c<=i->i<d->ops[i]?=some o->lh G o.op=true) (hd:d<=ops.size)
 (h:∃(cx:Ctx) (B:Nat->Nat),Mem cx w/\(∀r,cx.R r=(s c).rows.getD r none)/\(∀t,(∀k o,k<c->dt k=false->ops[k]?=some o->o.dst≠some t)->(∀k o,c<=k->dt k=true->ops[k]?=some o->o.dst≠some t)->Rep cx w (look (s c).env t) (a.tmps.getD t undef))/\Ab c0 w0 cx w/\
  (∀i,c<=i->dt i=true->MB P ops s val w0 cx w a i (B i))/\(∀i j,c<=i->c<=j->dt i=true->dt j=true->B i=B j->i=j)):
 ∀ n,c+n<=d->∃(cx:Ctx) (B:Nat->Nat),Mem cx w/\(∀r,cx.R r=ky s dt c n r)/\(∀t,(∀k o,k<c->dt k=false->ops[k]?=some o->o.dst≠some t)->(∀k o,c+n<=k->dt k=true->ops[k]?=some o->o.dst≠some t)->Rep cx w (jb ops s val dt c n t) (a.tmps.getD t undef))/\Ab c0 w0 cx w/\
  (∀i,c+n<=i->dt i=true->MB P ops s val w0 cx w a i (B i))/\(∀i j,c+n<=i->c+n<=j->dt i=true->dt j=true->B i=B j->i=j):=by
 have hlen:∀k l,c<=k->k<=l->l<=d->(s k).rows.length<=(s l).rows.length:=λk l h1 h2 h3=>Kk hc.toChain hq hd h1 h2 h3
 have Rh:∀n,c+n<=d->∀r,(s (c+n)).rows.length<=r->ky s dt c n r=none:=by
  intro n
  induction n with
  |zero=>intro _ r hr;simp only[ky];simp only[aB]at hr;rw[aV,aJ hr];rfl
  |succ n ih=>
   intro hn r hr
   simp only[ky]
   have:=hlen (c+n) (c+n+1) (by omega) (by omega) (by omega)
   rw[show c+(n+1)=c+n+1 by omega]at hr
   rw[if_neg (by omega)]
   exact ih (by omega) r (by omega)
 intro n
 induction n with
 |zero=>intro _;simpa only[ky,jb,aB]using h
 |succ n ih=>
  intro hn
  obtain⟨cx,B,hm,hR,hE,og,nP,oE⟩:=ih (by omega)
  cases hl:dt (c+n)with
  |false=>
   refine⟨cx,B,hm,λr=>?_,λt ht he=>?_,og,λi hi Hm=>nP i (by omega) Hm,λi j hi hj=>oE i j (by omega) (by omega)⟩
   ·simp only[ky,hl,aA,false_and,if_false];exact hR r
   ·simp only[jb,hl,aA,false_and,if_false]
    refine hE t ht λk o hk oH=>he k o ?_ oH
    by_cases e:k=c+n
    ·rw[e,hl]at oH;cases oH
    ·omega
  |true=>
   obtain⟨o,ty,row,arr,g1,g2,g3,g4,g5,g6,g7,g8,g9⟩:=nP (c+n) (aX _) hl
   have hk:cx.R (s (c+n)).rows.length=none:=by rw[hR];exact Rh n (by omega) _ (aX _)
   have hg:=Zkh (w:=w) hk row (B (c+n))
   refine⟨cx.add (s (c+n)).rows.length row (B (c+n)),B,qat hm hk g4 g7,λr=>?_,λt ht he=>?_,⟨og.cy.trans hg,og.fr,og.fe,λr x hr hv=>?_,og.xb⟩,λi hi Hm=>?_,λi j hi hj=>oE i j (by omega) (by omega)⟩
   ·simp only[ky,hl,true_and,g6,lA,List.length_singleton]
    by_cases e:r=(s (c+n)).rows.length
    ·subst e
     rw[if_pos ⟨aX _,Nat.lt_succ_self _⟩]
     simp[Ctx.add,aV]
    ·rw[if_neg (by omega)]
     simp only[Ctx.add,if_neg e];exact hR r
   ·simp only[jb,hl,true_and,g1,aW]
    split
    ·rename_i tS
     rw[g8 t tS,g5]
     obtain⟨e,q1,_⟩:=g4.cells
     exact⟨row,(Ctx.iY _ _ _ _).1,by simp[Ctx.add],by rw[q1];simp[ai.l],by simp[(Ctx.iY _ _ _ _).2]⟩
    ·rename_i tS
     refine Ac hg (hE t ht λk o' we oH dx=>?_)
     by_cases e:k=c+n
     ·subst e;rw[g1]at dx;cases dx;exact tS
     ·exact he k o' (by omega) oH dx
   ·by_cases e:r=(s (c+n)).rows.length
    ·right;right
     rw[e];simp only[Ctx.add,if_true];exact g7.jD
    ·have pI:cx.R r=some x:=by simpa[Ctx.add,e]using hr
     have Es:¬cx.V r:=by simpa[Ctx.add,e]using hv
     have:=og.om r x pI Es
     simpa only[Ctx.add,if_neg e]using this
   ·obtain⟨o',t',ao,iG,f1,f2,f3,f4,f5,f6,f7,f8,f9⟩:=nP i (by omega) Hm
    refine⟨o',t',ao,iG,f1,f2,f3,f4,f5,f6,⟨f7.jD,f7.lt,f7.here,f7.fe,λr x hr hv e'=>?_⟩,f8,f9⟩
    by_cases e:r=(s (c+n)).rows.length
    ·rw[e]at e'
     simp only[Ctx.add,if_true]at e'
     have:=oE (c+n) i (aX _) (by omega) hl Hm e'
     omega
    ·exact f7.row r x (by simpa[Ctx.add,e]using hr) (by simpa[Ctx.add,e]using hv) (by simpa only[Ctx.add,if_neg e]using e')
section
variable {P:Program} {G:List ba} {N M:Nat} {ops:Array Oper} {s:Nat->St} {ks:Nat->List Nat} {val:Nat->D} (hc:Vf P G N M ops s ks val) (me:Rd G ops (s ops.size).env=true)
include hc me
theorem qy {c0 :Ctx}{dt ga:Nat->Bool}{c d i:Nat}(hI:Inv2 P G N M ops s ks val c0 w0 dt a w c d)(ho:ops[i]? =some o)(h0:dt i=false)(h1:ga i=true)(h2: ∀k,k≠i->ga k=dt k)
    (Nb: ∀e∈o.after,Region.binds .any e=true->dt e.on=true) {K:Act->World->Prop} {Q:Exit->Act->World->Prop} (hK: ∀a' w' c' d',Inv2 P G N M ops s ks val c0 w0 ga a' w' c' d'->K a' w'):wpOp P ops Q i K a w:=by
  have bd:=(Array.getElem?_eq_some_iff.1 ho).1
  have pY: ∀k,((Region.before ops).getD i 0).testBit k=true->dt k=true:=λk hk=>
    Sw (ar:=λk=>dt k=true) hI.closed (λo' jn=>by rw[ho]at jn;cases jn;exact Nb) hk
  have oe: ∀j k,dt j=true->((Region.before ops).getD j 0).testBit k=true->dt k=true:=λj k hj hk=>
    Sw (ar:=λk=>dt k=true) hI.closed (hI.closed j hj) hk
  have tT: ∀j,ga j=true-> ∀(o:Oper),ops[j]? =some o-> ∀e∈o.after,Region.binds .any e=true->ga e.on=true:=by
    intro j hj o' jn e he hb
    have gq:dt e.on=true:=by
      by_cases e':j=i
      . subst e';rw[ho]at jn;cases jn;exact Nb e he hb
      . rw[h2 j e']at hj;exact hI.closed j hj o' jn e he hb
    rw[h2 e.on (λe'=>by rw[e',h0]at gq;cases gq)]
    exact gq
  have DH: ∀{x:Oper} {t:TypeId} {y:Operand},x.op= .load t y->lh G x.op=true:=λh=>by rw[h];rfl
  have hpu: ∀{x:Oper} {env:List (Nat×D)} {q:List Nat},lR env x.op=some q->lh G x.op=true:=λh=>by
    unfold lh;rw[(Z6u (G:=G) h).1];rfl
  have Hk: ∀{x:Oper} {t:TypeId},x.op= .alloc t->lh G x.op=true:=λh=>by rw[h];rfl
  obtain⟨cx,B,hm,hR,hE,og,nP,oE⟩:=hI.ctx
  have FB:dt d=false:=by
    cases hl:dt d with
    |false=>rfl
    | true=>
      obtain⟨o',t,_,_,g1,_,g3,_⟩:=nP d (aX _) hl
      have:=hI.wr _ g1
      rw[Hk g3]at this;cases this
  have hid:i<=d\/(d<i/\(∃t,o.guard=none/\o.op= .alloc t)/\ ∀u,o.dst=some u-> ∀k o',k≠i->ops[k]? =some o'->o'.dst≠some u):=by
    by_cases h:i<=d
    . exact .inl h
    . right
      have BD:ops[d]? =some ops[d]:=aU (by omega)
      have:=(FW me (show d<i by omega) BD ho).2
      rcases this with⟨hq,_⟩|hb|hb|hb
      . rw[hI.wr _ BD]at hq;cases hq
      . have:=pY d hb
        rw[FB]at this;cases this
      . rcases Rb BD ho hb with⟨t,b,t',b',z,r,r',ii,off,mi,iH,g1,g2,g3,_⟩|⟨q,g1,g2,g3,_⟩|⟨q,g1,g3,_⟩|⟨_,_,_,_,_,_,_,_,_,g1,g2,g3,_⟩|⟨_,_,_,_,_,_,_,_,g1,g2,g3,_⟩
        . have:=DH g3
          rw[hI.wr _ BD]at this;cases this
        . have:=hpu g3
          rw[hI.wr _ BD]at this;cases this
        . have:=hpu g3
          rw[hI.wr _ BD]at this;cases this
        . have:=DH g3
          rw[hI.wr _ BD]at this;cases this
        . have:=DH g3
          rw[hI.wr _ BD]at this;cases this
      . exact⟨by omega,hb⟩
  have Wh:=hI.cd
  have H8:=hI.dn
  have jh:cx.base<=w.heap.size:=by rw[og.cy.base];exact Nat.le_trans hI.fw og.fr.size
  have seen: ∀k o' t,k<i->ops[k]? =some o'->o'.dst=some t->t∈o.looksAt ops->dt k=true:=by
    intro k o' t hk jn hd ht
    rcases(FW me hk jn ho).1 with tU|hb
    . exact((Gp tU).2.1 hd ht).elim
    . exact pY _ hb
  have Dq: ∀k o' t,d<=k->dt k=true->ops[k]? =some o'->t∈o.looksAt ops->i<=d->o'.dst≠some t:=by
    intro k o' t hk hl jn ht hid hd
    have oh:i<k:=by
      by_cases e:k=i
      . rw[e,h0]at hl;cases hl
      . omega
    rcases(FW me oh ho jn).1 with tU|hb
    . exact(Gp tU).2.2 hd ht
    . have:=oe _ _ hl hb
      rw[h0]at this;cases this
  rcases hid with hid|⟨hdi,⟨t0,hg0,ho0⟩,Kp⟩
  rotate_left
  ·
    obtain⟨hks,row,arr,hA,hv,db⟩:=(hc.mI i o ho).al t0 hg0 ho0
    unfold wpOp
    simp only[ho]
    have hw:Region.wanted o (yielded ops a.tmps)=true:=by simp [Region.wanted,hg0]
    rw[if_pos hw]
    refine Gx (hA.run a.eval w) ?_
    have hmn:=Zt hm (.cells arr row.ty)
    have wx:=Qs4 hm (.cells arr row.ty)
    have hn:jK [] cx w cx (w.alloc (.cells arr row.ty)):=lT.toK ⟨hmn,wx,Fr.alloc _ w _,λb hb=> .inl hb,λr row hr v=> .inl ⟨⟨row,hr⟩,v,rfl⟩⟩
    refine hK _ _ c d ⟨hI.cd,hI.dn,λk hk=>by rw[h2 k (by omega)];exact hI.pre k hk,hI.quiet,hI.wr,tT,?_,?_,hI.fw,hI.gr,cx,λk=>if k=i then w.heap.size else B k,hmn,λr=> ?_,λt ht he=> ?_,og.step (ks:=[]) (λk hk=>by simp [da]at hk) hI.gr hn,λk hdk hl=> ?_,λk j hk hj oH HP e=> ?_⟩
    . cases hd:o.dst<;>simp [Act.put]<;>exact hI.size
    . first|exact mf.put (hI.defers.step hm hn.fr)|exact mf.put (hI.defers.step hm hn.toW.fr)
    . rw[hR,SC (λk hk=>h2 _ (by omega))]
    . rw[SB (λk hk=>h2 _ (by omega))]
      refine Vg hI.size (λu=>hc.dst i o u ho) (λhd=>(he i o (by omega) h1 ho hd).elim) (λhd=> ?_)
      exact Ac wx (hE t (λk o' hk hl dx=>ht k o' hk (by rw[h2 k (by omega)];exact hl) dx) (λk o' hk hl dx=>he k o' hk (by rw[h2 k (λe'=>by rw[e',h0]at hl;cases hl)];exact hl) dx))
    . by_cases e:k=i
      . subst e
        simp only[if_true]
        exact⟨o,t0,row,arr,ho,hg0,ho0,hA,hv,db,⟨og.fr.size,by rw[Qzc];omega,UK w _,λhb=>by have:=(hm.fe _ hb).1;omega,λr ao hr Es e=>by have:=hm.lt hr Es;omega⟩,λu hu=>yU hu (bM (hc.dst k o u ho hu) hI.size),Kp⟩
      . simp only[if_neg e]
        rw[h2 k e]at hl
        exact(nP k hdk hl).dv hn (Ne.symm e) ho
    . have key: ∀k,d<=k->ga k=true->k≠i->B k<w.heap.size:=λk hk oH e=>by
        rw[h2 k e]at oH
        obtain⟨_,_,_,_,_,_,_,_,_,_,g7,_⟩:=nP k hk oH
        exact g7.lt
      by_cases e1:k=i<;>by_cases e2:j=i
      . rw[e1,e2]
      . simp only[if_pos e1,if_neg e2]at e
        have:=key j hj HP e2;omega
      . simp only[if_neg e1,if_pos e2]at e
        have:=key k hk oH e1;omega
      . simp only[if_neg e1,if_neg e2]at e
        exact oE k j hk hj (by rw[<-h2 k e1];exact oH) (by rw[<-h2 j e2];exact HP) e
  by_cases pJ:c<=i
  . by_cases e:i=d
    ·
      subst e
      have iM: ∀k o',c<=k->k<i->ops[k]? =some o'->dt k=true\/MA G ops (s ops.size).env k i=true:=λk o' kE rH dx=>by
        rcases(FW me rH dx ho).2 with⟨_,hq⟩|hb|hb|⟨⟨t4,_,g4⟩,_⟩
        . rw[hI.wr _ ho]at hq;cases hq
        . exact .inl (pY _ hb)
        . exact .inr hb
        . have:=hI.wr _ ho
          rw[Hk g4]at this;cases this
      have hnr: ∀k o',c<=k->k<i->ops[k]? =some o'->MA G ops (s ops.size).env k i=true->(s (k+1)).rows=(s k).rows:=λk o' kE rH dx hb=>by
        rcases Rb dx ho hb with⟨t,b,t',b',z,r,r',ii,off,mi,iH,g1,g2,g3,g4,g5,g6,g7,g8,g9⟩|⟨q,g1,g2,g3,g4,_⟩|⟨q,g1,g3,g4⟩|⟨t,b,r,ii,off,_,_,_,_,g1,g2,g3,g5,g7,_⟩|⟨t,b,r,ii,off,_,_,_,g1,g2,g3,g5,g7,_⟩
        . exact((hc.mI k o' dx).ld t b r ii off g1 g3 (Em hc g5 g7 (aX _) (by omega))).2.1
        . exact((hc.mI k o' dx).pu q g1 (Zdg hc g3 g4 (aX _) (by omega))).2.1
        . exact((hc.mI k o' dx).pu q g1 (Zdg hc g3 (λa ha=>(g4.1 a ha).1) (aX _) (by omega))).2.1
        . exact((hc.mI k o' dx).ld t b r ii off g1 g3 (Em hc g5 g7 (aX _) (by omega))).2.1
        . exact((hc.mI k o' dx).ld t b r ii off g1 g3 (Em hc g5 g7 (aX _) (by omega))).2.1
      have db: ∀r,cx.R r=(s i).rows.getD r none:=λr=>by
        rw[hR,Zbf hc hI.quiet H8 (by omega) (λk hk=>by
          have dx:ops[c+k]? =some ops[c+k]:=aU (by omega)
          rcases iM (c+k) _ (by omega) (by omega) dx with h|h
          . exact .inl h
          . exact .inr (hnr (c+k) _ (by omega) (by omega) dx h)),show c+(i-c)=i by omega]
      have ta: ∀t,(∀k o',k<i->dt k=false->ops[k]? =some o'->o'.dst≠some t)->(∀k o',i<=k->dt k=true->ops[k]? =some o'->o'.dst≠some t)->Rep cx w (look (s i).env t) (a.tmps.getD t undef):=λt ht he=>by
        have:=hE t (λk o' hk=>ht k o' (by omega)) he
        rwa [Zhi hc hI.quiet H8 (by omega) (λk o' hk dx hd=>by
          cases hl:dt (c+k) with
          |true=>rfl
          |false=>exact(ht _ _ (by omega) hl dx hd).elim),show c+(i-c)=i by omega]at this
      refine xas (M:=M) ho hm jh db (λt ht=>ta t (λk o' hk hl dx hd=>by rw[seen k o' t hk dx hd ht]at hl;cases hl) (λk o' hk hl dx=>Dq k o' t hk hl dx ht (aX _))) (hc.op i o ho) λv w' c' hM hn jZ hv=> ?_
      obtain⟨d',g1,g2,g3,g4⟩:=Qk G ops _ (i+1) rfl (by omega)
      have dv: ∀k o' t b r ii off row,k<i->ops[k]? =some o'->dt k=false->o'.guard=none->o'.op= .load t (.tmp b)->kZ ops k b=true->look (s ops.size).env b= .ptr r ii off->(s i).rows.getD r none=some row->(ks i=[]/\(s (i+1)).rows.getD r none=some row)\/(Re ops (s ops.size).env k o'/\(s (i+1)).rows.getD r none=some (row.kill (ks i))):=by
        intro k o' t b r ii off row hk dx hl q1 q2 q3 q4 q5
        rcases(FW me hk dx ho).2 with⟨_,hq⟩|hb|hb|⟨⟨t4,_,g4⟩,_⟩
        rotate_right
        . have:=hI.wr _ ho
          rw[Hk g4]at this;cases this
        . rw[hI.wr _ ho]at hq;cases hq
        . rw[pY _ hb]at hl;cases hl
        . rcases Rb dx ho hb with⟨t1,b1,t',b',z,r1,r',Ri,Dr,mi,iH,p1,p2,p3,p4,p5,p6,p7,p8,p9⟩|⟨q,p1,p2,p3,_⟩|⟨q,p1,p3,_⟩|⟨t1,b1,r1,Ri,Dr,args,dj,x0,l0,p1,p2,p3,p4,p5,p6,p7,p8,p9⟩|⟨t1,b1,r1,Ri,Dr,args,dj,td,p1,p2,p3,p4,p5,p6,p7,p8,p9⟩
          . rw[q2]at p3;cases p3
            rw[q4]at p7;cases p7
            obtain⟨f1,f2⟩:=(hc.mI i o ho).st t' b' z r' mi iH p2 p4 (Em hc p6 p8 (by omega) (by omega))
            exact .inl ⟨f1,by rw[f2 r p9];exact q5⟩
          . rw[q2]at p3;simp [lR,rF,cj,q4]at p3
          . rw[q2]at p3;simp [lR,rF,cj,q4]at p3
          . obtain⟨f1,f2⟩:=(hc.mI i o ho).ap args dj x0 l0 p2 p6 p7 (by rw[En hc p8 (Zey p9) (by omega) (by omega)];exact p9)
            exact .inl ⟨f1,f2 r row q5⟩
          . refine .inr ⟨⟨td,p7,p8,p9⟩,(hc.mI i o ho).ap2 args dj p2 p6 r row q5 ?_⟩
            have e1:=Em hc q3 q4 (show k<=i by omega) (by omega)
            have e2:=Em hc q3 q4 (show k<=i+1 by omega) (by omega)
            rw[hc.env i o b ho,if_neg (JV q3 (by omega) ho),BO,e1]at e2
            cases hb:da r (ks i) with
            |false=>rfl
            |true=>simp [D.jW,D.kill,D.ez,hb]at e2
      have HQ: ∀k o' q,k<i->ops[k]? =some o'->dt k=false->lR (s ops.size).env o'.op=some q->ks i=[]\/JW ops (s ops.size).env k o' q:=by
        intro k o' q hk dx hl hq
        rcases(FW me hk dx ho).2 with⟨_,FV⟩|hb|hb|⟨⟨t4,_,g4⟩,_⟩
        rotate_right
        . have:=hI.wr _ ho
          rw[Hk g4]at this;cases this
        . rw[hI.wr _ ho]at FV;cases FV
        . rw[pY _ hb]at hl;cases hl
        . rcases Rb dx ho hb with⟨t1,b1,t',b',z,r1,r',Ri,Dr,mi,iH,p1,p2,p3,p4,p5,p6,p7,p8⟩|⟨q,p1,p2,p3,p4,p5⟩|⟨q',p1,p3,p4⟩|⟨t1,b1,r1,Ri,Dr,args,dj,x0,l0,p1,p2,p3,p4,p5,_⟩|⟨t1,b1,r1,Ri,Dr,args,dj,td,p1,p2,p3,p4,p5,_⟩
          rotate_right
          . rw[p3]at hq;simp [lR,rF,cj,p5]at hq
          rotate_right
          . rw[p3]at hq;simp [lR,rF,cj,p5]at hq
          . rw[p3]at hq;simp [lR,rF,cj,p7]at hq
          . rcases p5 with⟨t',b',z,r',mi,iH,p5,p6,p7⟩|⟨f,args,dj,p5,p6⟩
            . exact .inl ((hc.mI i o ho).st t' b' z r' mi iH p2 p5 (Em hc p6 p7 (by omega) (by omega))).1
            . exact .inl ((hc.mI i o ho).cl f args dj p2 p5 p6)
          . rw[p3]at hq;cases hq
            exact .inr p4
      have FX: ∀k,c<=k->k<i->ks k=[]:=λk kE rH=>by
        have dx:ops[k]? =some ops[k]:=aU (by omega)
        exact(V8 (hc.op k _ dx) (hI.quiet k _ kE rH dx)).1
      have Rj: ∀t,(∀k o,k<i+1->ga k=false->ops[k]? =some o->o.dst≠some t)->(∀k o,i+1<=k->ga k=true->ops[k]? =some o->o.dst≠some t)->Rep c' w' (look (s (i+1)).env t) ((a.put o.dst v).tmps.getD t undef):=by
        intro t ht he
        rw[hc.env i o t ho]
        refine Vg hI.size (λu=>hc.dst i o u ho) (λhd=>by rw[if_pos hd];exact hv) (λhd=> ?_)
        rw[if_neg hd,BO]
        refine Ac hn.cy (Wt (ta t (λk o' hk hl dx=> ?_) (λk o' hk hl dx=> ?_)))
        . exact ht k o' (by omega) (by rw[h2 k (by omega)];exact hl) dx
        . have gq:k≠i:=λe'=>by rw[e',h0]at hl;cases hl
          exact he k o' (by omega) (by rw[h2 k gq];exact hl) dx
      refine hK _ w' (i+1) d' ⟨g1,g2,λk hk=> ?_,g3,g4,tT,?_,?_,hI.fw,hI.gr,by
        have:=Rg hc (c0:=c0) (w0:=w0) (w:=w') (dt:=ga) (a:=a.put o.dst v) (c:=i+1) (d:=d') g3 g2 ⟨c',B,hn.mem,jZ,Rj,og.step hM hI.gr hn,λk hk oH=>(nP k (by omega) (by rw[<-h2 k (by omega)];exact oH)).dv hn (by omega) ho,λk j hk hj oH HP e=>oE k j (by omega) (by omega) (by rw[<-h2 k (by omega)];exact oH) (by rw[<-h2 j (by omega)];exact HP) e⟩ (d'-(i+1)) (by omega)
        rwa [show i+1+(d'-(i+1))=d' by omega]at this⟩
      . by_cases e' : k=i
        . rw[e'];exact .inl h1
        . rw [h2 k e']
          cases hl:dt k with
          |true=>exact .inl rfl
          | false =>
            right
            by_cases Wb:k<c
            . rcases hI.pre k Wb with h|h
              . rw[hl]at h;cases h
              . rcases h with h|⟨o',q,q1,q2,q3,q4,q8⟩
                rotate_left
                . rcases q8 with q8|q8
                  rotate_left
                  . exact .inr ⟨o',q,q1,q2,q3,q4, .inr q8⟩
                  rcases HQ k o' q (by omega) q1 hl q3 with f1|f1
                  rotate_left
                  . exact .inr ⟨o',q,q1,q2,q3,q4, .inr f1⟩
                  refine .inr ⟨o',q,q1,q2,q3,q4, .inl λk' kE rH=> ?_⟩
                  by_cases Kr:k'<c
                  . exact q8 k' kE Kr
                  . by_cases DW:k'<i
                    . exact FX k' (by omega) DW
                    . rw[show k'=i by omega];exact f1
                obtain⟨o',t,b,r,ii,off,row,ao,q1,q2,q3,q4,q5,q6,q7,q8⟩:=h
                have rz:r<(s c).rows.length:=by
                  by_cases hh:r<(s c).rows.length
                  . exact hh
                  . simp only[aV,aJ (show(s c).rows.length<=r by omega)]at q7;cases q7
                have iD:=Kl hc.toChain hI.quiet H8 (aX c) pJ (aX i) rz
                rcases dv k o' t b r ii off ao (by omega) q1 hl q2 q3 q4 q5 (by rw[iD];exact q7) with⟨f1,f2⟩|⟨f1,f2⟩
                . rcases q8 with⟨e8,q8⟩|q8
                  . refine .inl ⟨o',t,b,r,ii,off,row,ao,q1,q2,q3,q4,q5,q6,f2, .inl ⟨e8,λk' kE rH=> ?_⟩⟩
                    by_cases Kr:k'<c
                    . exact q8 k' kE Kr
                    . by_cases DW:k'<i
                      . exact FX k' (by omega) DW
                      . rw[show k'=i by omega];exact f1
                  . exact .inl ⟨o',t,b,r,ii,off,row,ao,q1,q2,q3,q4,q5,q6,f2, .inr ⟨q8.1,q8.2.elim λL hL=>⟨L,hL.1,λkk hk=>(hL.2 kk hk).elim λj hj=>⟨j,hj.1,by omega,hj.2.2⟩⟩⟩⟩
                . refine .inl ⟨o',t,b,r,ii,off,row,_,q1,q2,q3,q4,q5,q6,f2, .inr ⟨f1,?_⟩⟩
                  rcases q8 with⟨e8,_⟩|⟨_,L,e8,hL⟩
                  . exact⟨[ks i],by rw[e8];rfl,λkk hk=>⟨i,by omega,by omega,List.mem_singleton.1 hk⟩⟩
                  . refine⟨L++[ks i],by rw[List.foldl_append,<-e8];rfl,λkk hk=> ?_⟩
                    rcases List.mem_append.1 hk with hk|hk
                    . obtain⟨j,j1,j2,j3⟩:=hL kk hk
                      exact⟨j,j1,by omega,j3⟩
                    . exact⟨i,by omega,by omega,List.mem_singleton.1 hk⟩
            . have dx:ops[k]? =some ops[k]:=aU (by omega)
              rcases iM k _ (by omega) (by omega) dx with h|h
              . rw[hl]at h;cases h
              . have go: ∀t b r ii off,ops[k].guard=none->ops[k].op= .load t (.tmp b)->kZ ops k b=true->look (s ops.size).env b= .ptr r ii off->Rf ops s ks k (i+1):=by
                  intro t b r ii off p1 p3 p5 p7
                  obtain⟨row,cz⟩:=((hc.mI k _ dx).ld t b r ii off p1 p3 (Em hc p5 p7 (aX _) (by omega))).2.2.1
                  have rz:r<(s k).rows.length:=by
                    by_cases hh:r<(s k).rows.length
                    . exact hh
                    . simp only[aV,aJ (show(s k).rows.length<=r by omega)]at cz;cases cz
                  have iD:=Kl hc.toChain hI.quiet H8 (show c<=k by omega) (show k<=i by omega) (aX i) rz
                  rcases dv k _ t b r ii off row (by omega) dx hl p1 p3 p5 p7 (by rw[iD];exact cz) with⟨f1,f2⟩|⟨f1,f2⟩
                  rotate_left
                  . exact .inl ⟨_,t,b,r,ii,off,row,_,dx,p1,p3,p5,p7,cz,f2, .inr ⟨f1,[ks i],rfl,λkk hk=>⟨i,by omega,by omega,List.mem_singleton.1 hk⟩⟩⟩
                  refine .inl ⟨_,t,b,r,ii,off,row,row,dx,p1,p3,p5,p7,cz,f2, .inl ⟨rfl,λk' kE rH=> ?_⟩⟩
                  by_cases DW:k'<i
                  . exact FX k' (by omega) DW
                  . rw[show k'=i by omega];exact f1
                rcases Rb dx ho h with⟨t,b,t',b',z,r,r',ii,off,mi,iH,p1,p2,p3,p4,p5,p6,p7,p8,p9⟩|⟨q,p1,p2,p3,p4,p5⟩|⟨q,p1,p3,p4⟩|⟨t,b,r,ii,off,_,_,_,_,p1,p2,p3,p5,p7,_⟩|⟨t,b,r,ii,off,_,_,_,p1,p2,p3,p5,p7,_⟩
                rotate_right
                . exact go t b r ii off p1 p3 p5 p7
                rotate_left 2
                rotate_left
                . exact go t b r ii off p1 p3 p5 p7
                rotate_right
                . exact .inr ⟨_,q,dx,p1,p3,λa ha=>(p4.1 a ha).1, .inr p4⟩
                rotate_left
                . rcases HQ k _ q (by omega) dx hl p3 with f1|f1
                  rotate_left
                  . exact .inr ⟨_,q,dx,p1,p3,p4, .inr f1⟩
                  refine .inr ⟨_,q,dx,p1,p3,p4, .inl λk' kE rH=> ?_⟩
                  by_cases DW:k'<i
                  . exact FX k' (by omega) DW
                  . rw[show k'=i by omega];exact f1
                exact go t b r ii off p1 p3 p5 p7
      . cases hd:o.dst<;>simp [Act.put]<;>exact hI.size
      . first|exact mf.put (hI.defers.step hm hn.fr)|exact mf.put (hI.defers.step hm hn.toW.fr)
    ·
      have H6:i<d:=by omega
      have hq:=hI.quiet i o pJ H6 ho
      have Nc:=V7 hq
      have Nd: ∀t∈o.looksAt ops,Rep cx w (look (s i).env t) (a.tmps.getD t undef):=λt ht=>by
        have H7 : ∀n,c+n<=d->jb ops s val dt c n t=if c+n<=i then look (s (c+n)).env t else look (s i).env t:=by
          intro n
          induction n with
          |zero=>intro _;simp only[jb,aB];rw[if_pos pJ]
          | succ n ih=>
            intro hn
            obtain⟨ok,dx⟩: ∃ok,ops[c+n]? =some ok:=⟨_,aU (show c+n<ops.size by omega)⟩
            have ih:=ih (by omega)
            simp only[jb,dx,aW]
            by_cases hk:c+n<i
            . have hA:c+(n+1)<=i:=by omega
              have SD:c+n<=i:=by omega
              rw[if_pos hA,show c+(n+1)=c+n+1 by omega,hc.toChain.Eu dx (hI.quiet _ _ (by omega) (by omega) dx) t]
              rw[if_pos SD]at ih
              by_cases hd:ok.dst=some t
              . rw[if_pos ⟨seen _ _ t hk dx hd ht,hd⟩,if_pos hd]
              . rw[if_neg (λg=>hd g.2),if_neg hd,ih]
            . have H9: ¬(dt (c+n)=true/\ok.dst=some t):=by
                rintro⟨g1,g2⟩
                by_cases e':c+n=i
                . rw[e',h0]at g1;cases g1
                . have oh:i<c+n:=by omega
                  rcases(FW me oh ho dx).1 with tU|hb
                  . exact(Gp tU).2.2 g2 ht
                  . have:=oe _ _ g1 hb
                    rw[h0]at this;cases this
              have hA: ¬c+(n+1)<=i:=by omega
              rw[if_neg H9,ih,if_neg hA]
              split
              . rw[show c+n=i by omega]
              . rfl
        have:=hE t (λk o' hk hl dx hd=>by rw[seen k o' t (by omega) dx hd ht]at hl;cases hl) (λk o' hk hl dx=>Dq k o' t hk hl dx ht hid)
        rw[H7 (d-c) (by omega),if_neg (by omega)]at this
        exact this
      have hlen: ∀k l,c<=k->k<=l->l<=d->(s k).rows.length<=(s l).rows.length:=λk l h1 h2 h3=>Kk hc.toChain hI.quiet hI.dn h1 h2 h3
      have ir: ∀k l,c<=k->k<=l->l<=d-> ∀r,r<(s k).rows.length->(s l).rows.getD r none=(s k).rows.getD r none:=λk l h1 h2 h3 r hr=>Kl hc.toChain hI.quiet hI.dn h1 h2 h3 hr
      have BE: ∀n,c+n<=d-> ∀r,r<(s i).rows.length-> ∀row,ky s dt c n r=some row->(s i).rows.getD r none=some row:=by
        intro n
        induction n with
        | zero=>
          intro _ r hr row h
          simp only[ky]at h
          by_cases Wc:r<(s c).rows.length
          . rw[ir c i (aX _) pJ (by omega) r Wc];exact h
          . simp only[aV,aJ (show(s c).rows.length<=r by omega)]at h;cases h
        | succ n ih=>
          intro hn r hr row h
          simp only[ky]at h
          split at h
          . rename_i g
            obtain⟨g1,g2,g3⟩:=g
            have Wd:c+n<i:=by
              by_cases mQ:c+n<i
              . exact mQ
              . by_cases e':c+n=i
                . rw[e',h0]at g1;cases g1
                . have:=hlen i (c+n) pJ (by omega) (by omega);omega
            rw[ir (c+n+1) i (by omega) (by omega) (by omega) r g3];exact h
          . exact ih (by omega) r hr row h
      have BF: ∀n,c+n<=d-> ∀r,(s i).rows.length<=r->r<(s (i+1)).rows.length->ky s dt c n r=none:=by
        intro n
        induction n with
        | zero=>
          intro _ r h1 h2
          have:=hlen c i (aX _) pJ (by omega)
          simp only[ky,aV,aJ (show(s c).rows.length<=r by omega),Option.getD_none]
        | succ n ih=>
          intro hn r h1 h2
          simp only[ky]
          rw[if_neg]
          . exact ih (by omega) r h1 h2
          . rintro⟨g1,g2,g3⟩
            by_cases e':c+n=i
            . rw[e',h0]at g1;cases g1
            . by_cases mQ:c+n<i
              . have:=hlen (c+n+1) i (by omega) (by omega) (by omega);omega
              . have:=hlen (i+1) (c+n) (by omega) (by omega) (by omega);omega
      have o5:mn cx (s i).rows:=λr row ao g1 g2=>by
        have hr:r<(s i).rows.length:=by
          by_cases h:r<(s i).rows.length
          . exact h
          . simp only[aV,aJ (show(s i).rows.length<=r by omega)]at g2;cases g2
        rw[hR]at g1
        have:=BE (d-c) (by omega) r hr row g1
        rw[this]at g2;exact Option.some.inj g2
      have fin: ∀v w' c',Ev cx w (s i).rows (s (i+1)).rows c' w'->Rep c' w' (val i) v->K (a.put o.dst v) w':=by
        intro v w' c' hn hv
        refine hK _ w' c d ⟨hI.cd,hI.dn,λk hk=>by rw[h2 k (by omega)];exact hI.pre k hk,hI.quiet,hI.wr,tT,?_,?_,hI.fw,hI.gr,c',B,hn.mem,λr=> ?_,λt ht he=> ?_,og.step (ks:=[]) (λk hk=>by simp [da]at hk) hI.gr hn.toW.toK,λk hk oH=>(nP k hk (by rw[<-h2 k (by omega)];exact oH)).dv hn.toW.toK (by omega) ho,λk j hk hj oH HP e=>oE k j hk hj (by rw[<-h2 k (by omega)];exact oH) (by rw[<-h2 j (by omega)];exact HP) e⟩
        . cases hd:o.dst<;>simp [Act.put]<;>exact hI.size
        . first|exact mf.put (hI.defers.step hm hn.fr)|exact mf.put (hI.defers.step hm hn.toW.fr)
        . rw[hn.rows,hR,Wa pJ h0 h1 h2 (d:=d) (λk kE rH=>hlen (i+1) k (by omega) (by omega) (by omega)) (by omega) (by omega)]
        . have hl: ∀k o',i<k->dt k=true->ops[k]? =some o'->o'.dst=some t->o.dst=some t->False:=by
            intro k o' oh hk dx M4 We
            rcases(FW me oh ho dx).1 with tU|hb
            . exact(Gp tU).1 We M4
            . have:=oe _ _ hk hb
              rw[h0]at this;cases this
          rw[V9 ho pJ h0 h1 h2 hl (by omega)]
          have hold:=Ac hn.cy (hE t (λk o' hk hl dx=>ht k o' hk (by rw[h2 k (by omega)];exact hl) dx) (λk o' hk hl dx=>he k o' hk (by rw[h2 k (by omega)];exact hl) dx))
          refine Vg hI.size (λu=>hc.dst i o u ho) (λhd=>by rw[if_pos hd];exact hv) (λhd=>by rw[if_neg hd];exact hold)
      have skip:val i= .dw []->(s (i+1)).rows=(s i).rows->K (a.put o.dst undef) w:=λe1 e2=>
        fin undef w cx ⟨hm,ja.refl _ _,Fr.refl _ _,λb hb=> .inl hb,λr=>by rw[e2,if_neg (by omega)],λ_ _=>⟨rfl,Iff.rfl⟩,λr g1 g2=>by rw[e2]at g2;omega⟩ (by rw[e1];exact SE _ _)
      have run:pH P G M o (cj (s i).env) (s i).rows (ks i) (val i) (s (i+1)).rows->o.nk P a w K Q:=λhX=>by
        unfold pH at hX
        rw[Nc]at hX
        refine hX.2.2 cx w a hm jh o5 (λr g1 g2=>by rw[hR];exact BF (d-c) (by omega) r g1 g2) (λx hx=> ?_) K Q fin
        cases x with
        | tmp t=>
          refine Nd t ?_
          unfold Oper.looksAt
          exact eS _ (List.mem_filterMap.2 ⟨.tmp t,by simpa using hx,rfl⟩)
        | const v=>
          simp only[cj,Act.eval]
          cases hv:Gq v with
          |none=>trivial
          |some d=>exact Nf hv cx w
        |global g=>trivial
        |func f=>exact Km f
      have hG:=hc.op i o ho
      unfold wpOp
      simp only[ho]
      unfold nD at hG
      cases hg:o.guard with
      | none=>
        simp only[hg]at hG
        have hw:Region.wanted o (yielded ops a.tmps)=true:=by simp [Region.wanted,hg]
        rw[if_pos hw]
        exact run hG
      | some jw=>
        obtain⟨j,want⟩:=jw
        simp only[hg]at hG
        obtain⟨g,g2,hG⟩:=hG
        have hr:=Nd g (by
          unfold Oper.looksAt
          refine eX _ ?_
          simp only[hg,g2];simp)
        rcases hG with⟨b,g3,g4⟩|⟨g3,_,e1,e2⟩
        rotate_left
        . rw[g3]at hr
          rw[if_neg (by rw[SF (o:=o) hg g2 hr];simp)]
          exact skip e1 e2
        rw[g3]at hr
        have hw:=SG (o:=o) hg g2 hr
        by_cases e':b=want
        . rw[if_pos e']at g4
          rw[if_pos (by rw[hw];simpa using e')]
          exact run g4
        . rw[if_neg e']at g4
          rw[if_neg (by rw[hw];simpa using e')]
          exact skip g4.2.1 g4.2.2
  ·
    have V4:i<c:=by omega
    rcases hI.pre i V4 with h|h
    . rw[h0]at h;cases h
    have Rk: ∀b,kZ ops i b=true->(∀k,i<k->k<c->ks k=[])->ks i=[]->look (s c).env b=look (s i).env b:=by
      intro b hb q8 q9
      have: ∀k,i<=k->k<=c->look (s k).env b=look (s i).env b:=by
        intro k
        induction k with
        |zero=>intro h1 _;rw[show i=0 by omega]
        | succ k ih=>
          intro h1 h2
          by_cases e':i=k+1
          . rw[e']
          . have dx:ops[k]? =some ops[k]:=aU (by omega)
            rw[hc.env k _ b dx,if_neg (JV hb (by omega) dx)]
            by_cases e2:k=i
            . rw[e2,q9,oK]
            . rw[q8 k (by omega) (by omega),oK];exact ih (by omega) (by omega)
      exact this c (by omega) (aX _)
    have oB: ∀b,kZ ops i b=true->b∈o.looksAt ops->Rep cx w (look (s c).env b) (a.tmps.getD b undef):=λb hnb Y9=>by
      have:=hE b (λk o' hk hl dx hd=>by
        by_cases Wd:k<i
        . rw[seen k o' b Wd dx hd Y9]at hl;cases hl
        . exact JV hnb (by omega) dx hd) (λk o' hk hl dx=>Dq k o' b hk hl dx Y9 hid)
      rwa [Qzd hc (λk o' hk dx hd=>(JV hnb (by omega) dx hd).elim)]at this
    obtain ⟨q2,q8,hN,Dk⟩:o.guard=none/\((∀k,i<k->k<c->ks k=[])\/ ∀t,o.dst=some t->kZ ops (i+1) t=true/\uX (look (s ops.size).env t)=true)/\pL P o (cj (s c).env) (s c).rows (val i) (s c).rows/\ ∀x∈o.op.operands,Rep cx w (cj (s c).env x) (a.eval x):=by
      rcases h with⟨o',t0,b,r,ii,off,row,ao,q1,q2,q3,q4,q5,q6,q7,q8⟩|⟨o',q,q1,q2,q3,q4,q8⟩
      . rw [ho]at q1;cases q1
        have hpc:look (s c).env b= .ptr r ii off:=Em hc q4 q5 (by omega) (by omega)
        have hpi:look (s i).env b= .ptr r ii off:=Em hc q4 q5 (by omega) (by omega)
        have th:=(hc.mI i o ho).ld t0 b r ii off q2 q3 hpi
        have eh:cj (s c).env (.tmp b)= .ptr r ii off:=by simp [cj,hpc]
        have q9:((∀k,i<k->k<c->ks k=[])\/ ∀t,o.dst=some t->kZ ops (i+1) t=true/\uX (look (s ops.size).env t)=true)/\pL P o (cj (s c).env) (s c).rows (val i) (s c).rows:=by
          rcases q8 with⟨e8,q8⟩|⟨⟨td,d1,d2,d3⟩,L,e8,hL⟩
          . subst e8
            exact⟨.inl q8,th.2.2.2.1 (cj (s c).env) (s c).rows eh (by rw[q6,q7])⟩
          . refine⟨.inr λt ht=>by rw[d1]at ht;cases ht;exact⟨d2,Ra d3⟩,th.2.2.2.2 (cj (s c).env) (s c).rows row L ?_ (λkk hk=> ?_) eh q6 (by rw[q7,e8])⟩
            rotate_left
            . obtain⟨j,j1,j2,rfl⟩:=hL kk hk
              have h5:=En hc d2 (Ra d3) (aX _) (show i+1<=ops.size by omega)
              have h6:=hc.env i o td ho
              rw[if_pos d1,h5]at h6
              have g1:=En hc d2 (Ra d3) (show i+1<=j by omega) (show j<=ops.size by omega)
              have g2:=En hc d2 (Ra d3) (show i+1<=j+1 by omega) (show j+1<=ops.size by omega)
              have dx:ops[j]? =some ops[j]:=aU (by omega)
              rw[hc.env j _ td dx,if_neg (JV d2 (by omega) dx),BO,g1,Zs7 d3]at g2
              rw[<-h6];exact g2
            have h5:=En hc d2 (Ra d3) (aX _) (show i+1<=ops.size by omega)
            have h6:=hc.env i o td ho
            rw[if_pos d1]at h6
            rw[<-h6,h5];exact d3
        refine⟨q2,q9.1,q9.2,λx hx=> ?_⟩
        have jJ:x= .tmp b:=by simpa [q3,Op.operands] using hx
        rw[jJ]
        refine oB b q4 ?_
        unfold Oper.looksAt
        exact eS _ (List.mem_filterMap.2 ⟨.tmp b,by rw[q3];simp [Op.operands],rfl⟩)
      . rw [ho]at q1;cases q1
        have th:=(hc.mI i o ho).pu q q2 (Zdg hc q3 q4 (aX _) (by omega))
        refine⟨q2,q8.imp id λg t ht=>⟨(g.2 t ht).1,(g.2 t ht).2⟩,th.2.2 (cj (s c).env) (s c).rows (λx hx=> ?_),λy hy=> ?_⟩
        . cases x with
          | tmp b=>
            rcases q8 with q8|q8
            . exact Rk b (q4 b (ZZ q3 hx)) q8 th.1
            . obtain⟨g1,g2⟩:=q8.1 b (ZZ q3 hx)
              show look (s c).env b=look (s i).env b
              rw[En hc g1 g2 (by omega) (by omega),En hc g1 g2 (aX _) (by omega)]
          |_=>rfl
        . cases y with
          | tmp b=>
            refine oB b (q4 b (ZZ q3 hy)) ?_
            unfold Oper.looksAt
            exact eS _ (List.mem_filterMap.2 ⟨.tmp b,by simpa using hy,rfl⟩)
          | const v=>
            simp only[cj,Act.eval]
            cases hv:Gq v with
            |none=>trivial
            |some d=>exact Nf hv cx w
          |global g=>trivial
          |func f=>exact Km f
    have o5:mn cx (s c).rows:=λr' QO jz g1 g2=>by
      have hr:r'<(s c).rows.length:=by
        by_cases h:r'<(s c).rows.length
        . exact h
        . simp only[aV,aJ (show(s c).rows.length<=r' by omega)]at g2;cases g2
      rw[hR,Zjo hc hI.quiet H8 hr (by omega),g2]at g1
      exact(Option.some.inj g1).symm
    have fin: ∀v w' c',Ev cx w (s c).rows (s c).rows c' w'->Rep c' w' (val i) v->K (a.put o.dst v) w':=by
      intro v w' c' hn hv
      refine hK _ w' c d ⟨Wh,H8,λk hk=> ?_,hI.quiet,hI.wr,tT,?_,?_,hI.fw,hI.gr,c',B,hn.mem,λr'=> ?_,λt ht he=> ?_,og.step (ks:=[]) (λk hk=>by simp [da]at hk) hI.gr hn.toW.toK,λk hk oH=>(nP k hk (by rw[<-h2 k (by omega)];exact oH)).dv hn.toW.toK (by omega) ho,λk j hk hj oH HP e=>oE k j hk hj (by rw[<-h2 k (by omega)];exact oH) (by rw[<-h2 j (by omega)];exact HP) e⟩
      . by_cases e':k=i
        . rw[e'];exact .inl h1
        . rw[h2 k e'];exact hI.pre k hk
      . cases hd:o.dst<;>simp [Act.put]<;>exact hI.size
      . first|exact mf.put (hI.defers.step hm hn.fr)|exact mf.put (hI.defers.step hm hn.toW.fr)
      . rw[hn.rows,hR,if_neg (by omega),SC (λk hk=>h2 _ (by omega))]
      . rw [SB (λk hk=>h2 _ (by omega))]
        refine Vg hI.size (λu=>hc.dst i o u ho) (λhd=> ?_) (λhd=> ?_)
        ·
          have nh: ∀k o',i<k->ops[k]? =some o'->o'.dst=some t->dt k=false:=λk o' hk dx pw=>by
            cases hl:dt k with
            |false=>rfl
            | true=>
              rcases(FW me hk ho dx).1 with tU|hb
              . exact((Gp tU).1 hd pw).elim
              . have:=oe _ _ hl hb
                rw[h0]at this;cases this
          have Jae: ∀k o',i<k->k<c->ops[k]? =some o'->o'.dst≠some t:=λk o' kE rH dx pw=>
            ht k o' rH (by rw[h2 k (by omega)];exact nh k o' kE dx pw) dx pw
          rw[Qzd hc (λk o' hk dx pw=>nh _ o' (by omega) dx pw)]
          have: ∀k,i<k->k<=c->look (s k).env t=val i:=by
            rcases q8 with q8|q8
            rotate_left
            . intro k kE rH
              obtain⟨g1,g2⟩:=q8 t hd
              have:=hc.env i o t ho
              rw[if_pos hd]at this
              rw[<-this,En hc g1 g2 (by omega) (by omega),En hc g1 g2 (aX _) (by omega)]
            intro k
            induction k with
            |zero=>intro h;omega
            | succ k ih=>
              intro kE rH
              have dx:ops[k]? =some ops[k]:=aU (by omega)
              by_cases e':k=i
              . subst e'
                rw[ho]at dx
                rw[hc.env k o t ho,if_pos hd]
              . rw[hc.env k _ t dx,if_neg (Jae k _ (by omega) (by omega) dx),q8 k (by omega) (by omega),oK]
                exact ih (by omega) (by omega)
          rw[this c V4 (aX _)]
          exact hv
        . refine Ac hn.cy (hE t (λk o' hk hl dx pw=> ?_) (λk o' hk hl dx=>he k o' hk (by rw[h2 k (by omega)];exact hl) dx))
          by_cases e':k=i
          . subst e'
            rw[ho]at dx;cases dx
            exact hd pw
          . exact ht k o' hk (by rw[h2 k e'];exact hl) dx pw
    unfold wpOp
    simp only[ho]
    have hw:Region.wanted o (yielded ops a.tmps)=true:=by simp [Region.wanted,q2]
    rw[if_pos hw]
    exact hN.2 cx w a hm jh o5 (λr' g1 g2=>by omega) Dk K Q fin
theorem Zk5{c d:Nat}(hI:Inv2 P G N M ops s ks val c0 w0 dt a w c d)(iM:∀i,i<ops.size->dt i=true):∃cx,ff N M c0 w0 cx w (s ops.size) a:=by
 obtain⟨cx,B,hm,hR,hE,og,nP,oE⟩:=hI.ctx
 have hd:d=ops.size:=by
  by_cases h:d<ops.size
  ·obtain⟨o',t,_,_,g1,_,g3,_⟩:=nP d (aX _) (iM d h)
   have:=hI.wr _ g1
   unfold lh at this
   rw[g3]at this;cases this
  ·have:=hI.dn;omega
 subst hd
 have Wh:=hI.cd
 have hl:∀k,k<ops.size-c->dt (c+k)=true:=λk hk=>iM _ (by omega)
 refine⟨cx,hm,λr=>?_,λt=>?_,hI.size,hI.defers,hI.fw,hI.gr,og⟩
 ·rw[hR,Sy hc.toChain hI.quiet hI.dn (by omega) hl,show c+(ops.size-c)=ops.size by omega]
 ·have:=hE t (λk o hk h0 dx=>by rw[iM k (Array.getElem?_eq_some_iff.1 dx).1]at h0;cases h0) (λk o hk _ dx=>by have:=(Array.getElem?_eq_some_iff.1 dx).1;omega)
  rw[Sx hc.toChain hI.quiet hI.dn (by omega) hl]at this
  rwa [show c+(ops.size-c)=ops.size by omega]at this
theorem xy(hQ:∀c w a,ff N M c0 w0 c w (s ops.size) a->Q .normal a w):∀(fuel:Nat) (ar:Array Bool) (a:Act) (w:World) (c d:Nat),ar.size=ops.size->mU (λi=>ar.getD i false) ops.size<=fuel->
 Inv2 P G N M ops s ks val c0 w0 (λi=>ar.getD i false) a w c d->Ia P .any ops Q fuel ar a w:=by
 intro fuel
 have AU:∀(ar:Array Bool) (i:Nat),ar.size=ops.size->(i∈Region.ready .any ops ar↔ ∃o,ops[i]?=some o/\ar.getD i false=false/\∀e∈o.after,Region.binds .any e=true->ar.getD e.on false=true):=by
  intro ar i fp
  unfold Region.ready
  rw[gM,gN]
  constructor
  ·rintro⟨h1,h2⟩
   have ho:ops[i]?=some ops[i]:=aU h1
   simp only[ho,bA,aR,aE,bB]at h2
   refine⟨_,ho,?_,λe he hb=>?_⟩
   ·have hl:i<ar.size:=by omega
    have:=h2.1
    simpa[aY,hl]using this
   ·have:=Array.all_eq_true'.1 h2.2 e he
    simpa[hb]using this
  ·rintro⟨o,ho,h1,h2⟩
   have bd:=(Array.getElem?_eq_some_iff.1 ho).1
   refine⟨bd,?_⟩
   simp only[ho,bA,aR,aE,bB]
   have hl:i<ar.size:=by omega
   refine⟨by simpa[aY,hl]using h1,Array.all_eq_true'.2 λe he=>?_⟩
   cases hb:Region.binds .any e with
   |false=>rfl
   |true=>simpa[hb]using h2 e he hb
 have kg:∀(ar:Array Bool),ar.size=ops.size->Region.ready .any ops ar=[]->∀i,i<ops.size->ar.getD i false=true:=by
  intro ar fp he i
  induction i using Nat.strongRecOn with
  |_ i ih=>
   intro hi
   cases hl:ar.getD i false with
   |true=>rfl
   |false=>
    exfalso
    have ho:ops[i]?=some ops[i]:=aU hi
    have:i∈Region.ready .any ops ar:=(AU ar i fp).2 ⟨_,ho,hl,λe Aa hb=>by
     have:=Zjz me ho e Aa hb
     exact ih e.on this (by omega)⟩
    rw[he]at this;cases this
 induction fuel with
 |zero=>
  intro ar a w c d fp BG hI
  have iM:=Z7 (dt:=λi=>ar.getD i false) (Nat.le_zero.1 BG)
  refine⟨?_,?_⟩
  ·rw[List.eq_nil_iff_forall_not_mem]
   intro i hi
   obtain⟨o,ho,h1,_⟩:=(AU ar i fp).1 hi
   have:=iM i (Array.getElem?_eq_some_iff.1 ho).1
   rw[h1]at this;cases this
  ·obtain⟨cx,hs⟩:=Zk5 hc me hI iM
   exact hQ cx w a hs
 |succ fuel ih=>
  intro ar a w c d fp BG hI
  refine⟨λhe=>?_,λi hi=>?_⟩
  ·obtain⟨cx,hs⟩:=Zk5 hc me hI (kg ar fp he)
   exact hQ cx w a hs
  ·obtain⟨o,ho,h1,h2⟩:=(AU ar i fp).1 hi
   have bd:=(Array.getElem?_eq_some_iff.1 ho).1
   have sc:(ar.setIfInBounds i true).getD i false=true:=by
    have hl:i<ar.size:=by omega
    simp[aY,hl]
   have sd:∀k,k≠i->(ar.setIfInBounds i true).getD k false=ar.getD k false:=λk hk=>by
    rw[aQ,aZ (Ne.symm hk),<-aQ]
   refine qy hc me (ga:=λk=>(ar.setIfInBounds i true).getD k false) hI ho h1 sc sd h2 λa' w' c' d' Wi=>?_
   refine ih _ a' w' c' d' (by simpa using fp) ?_ Wi
   have:=Wg (dt:=λk=>ar.getD k false) (ga:=λk=>(ar.setIfInBounds i true).getD k false) h1 sc sd bd
   omega
end
theorem AU{ar:Array Bool}(fp:ar.size=ops.size):i∈Region.ready .any ops ar↔ ∃o,ops[i]?=some o/\ar.getD i false=false/\∀e∈o.after,Region.binds .any e=true->ar.getD e.on false=true:=by
 unfold Region.ready
 rw[gM,gN]
 constructor
 ·rintro⟨h1,h2⟩
  have ho:ops[i]?=some ops[i]:=aU h1
  simp only[ho,bA,aR,aE,bB]at h2
  refine⟨_,ho,?_,λe he hb=>?_⟩
  ·have hl:i<ar.size:=by omega
   have:=h2.1
   simpa[aY,hl]using this
  ·have:=Array.all_eq_true'.1 h2.2 e he
   simpa[hb]using this
 ·rintro⟨o,ho,h1,h2⟩
  have bd:=(Array.getElem?_eq_some_iff.1 ho).1
  refine⟨bd,?_⟩
  simp only[ho,bA,aR,aE,bB]
  have hl:i<ar.size:=by omega
  refine⟨by simpa[aY,hl]using h1,Array.all_eq_true'.2 λe he=>?_⟩
  cases hb:Region.binds .any e with
  |false=>rfl
  |true=>simpa[hb]using h2 e he hb
theorem zy{r:Nat}:∀{l:List Nat} {k:Nat},r∉l->pos r l k=k+l.length
 |[],k,_=>rfl
 |x::l,k,h=>by
  simp only[List.mem_cons,not_or]at h
  simp only[pos]
  cases hb:Nat.beq x r with
  |true=>exact(h.1 (bE hb).symm).elim
  |false=>show pos r l (k+1)=_;rw[zy h.2];simp;omega
section
variable {p:List Nat} {ops:Array Oper} (hp:Vh p ops.size=true)
include hp
theorem Vi:p.length=ops.size/\(∀i,i<ops.size->i∈p)/\(∀i∈p,i<ops.size)/\p.Nodup:=by
 unfold Vh at hp
 simp only[aE]at hp
 obtain⟨h1,h2,h3,h4⟩:=hp
 exact⟨bE h1,λi hi=>nU.1 (List.all_eq_true.1 h2 i (List.mem_range.2 hi)),λi hi=>lE (List.all_eq_true.1 h3 i hi),Mg.1 h4⟩
theorem HR(hi:i<ops.size):pos i p 0<ops.size/\p[pos i p 0]?=some i:=by
 obtain⟨h1,h2,h3,h4⟩:=Vi hp
 have:=Bn (h2 i hi)
 exact⟨by have:=(List.getElem?_eq_some_iff.1 this).1;omega,this⟩
theorem Zl7(h:pos i p 0<ops.size):i<ops.size:=by
 obtain⟨h1,h2,h3,h4⟩:=Vi hp
 by_cases hm:i∈p
 ·exact h3 i hm
 ·rw[zy hm]at h;omega
theorem Qro:(Q5 p ops).size=ops.size:=by
 obtain⟨h1,_⟩:=Vi hp
 simp[Q5,h1]
theorem Vj(hk:p[k]?=some i)(ho:ops[i]?=some o):(Q5 p ops)[k]?=some (MC p o):=by
 have:ops.getD i default=o:=by
  have bd:=(Array.getElem?_eq_some_iff.1 ho).1
  have:=(Array.getElem?_eq_some_iff.1 ho).2
  simp[aY,bd,this]
 simp[Q5,hk,ho]
theorem Zh8(tmps:Array Value)(j:Nat):yielded (Q5 p ops) tmps (pos j p 0)=yielded ops tmps j:=by
 by_cases hj:j<ops.size
 ·have ho:ops[j]?=some ops[j]:=aU hj
  have h1:=Vj hp (HR hp hj).2 ho
  simp only[yielded,h1,ho,aW]
  rfl
 ·have h1:ops[j]?=none:=gO (by omega)
  have h2:(Q5 p ops)[pos j p 0]?=none:=by
   refine gO ?_
   rw[Qro hp]
   by_cases h:pos j p 0<ops.size
   ·exact(hj (Zl7 hp h)).elim
   ·omega
  simp only[yielded,h1,h2,Option.bind_none]
theorem Znq(tmps:Array Value):Region.wanted (MC p o) (yielded (Q5 p ops) tmps)=Region.wanted o (yielded ops tmps):=by
 unfold Region.wanted MC
 cases hg:o.guard with
 |none=>rfl
 |some jw=>obtain⟨j,w⟩:=jw;simp only[Zh8 hp]
theorem yy{K K':Act->World->Prop}(hi:i<ops.size)(hK:∀a w,K' a w->K a w)(h:wpOp P (Q5 p ops) Q (pos i p 0) K' a w):wpOp P ops Q i K a w:=by
 have ho:ops[i]?=some ops[i]:=aU hi
 have h1:=Vj hp (HR hp hi).2 ho
 unfold wpOp at h⊢
 simp only[ho]
 simp only[h1,Znq hp]at h
 split at h
 ·rename_i hw
  rw[if_pos hw]
  exact Ws (Q:=Q) hK h
 ·rename_i hw
  rw[if_neg hw]
  exact hK _ _ h
theorem Zt5:∀(fuel:Nat) (ar e9:Array Bool) (a:Act) (w:World),ar.size=ops.size->e9.size=ops.size->(∀i,i<ops.size->e9.getD (pos i p 0) false=ar.getD i false)->
 Ia P .any (Q5 p ops) Q fuel e9 a w->Ia P .any ops Q fuel ar a w:=by
 have fp:=Qro hp
 obtain⟨f1,f2,f3,f4⟩:=Vi hp
 have up:∀(ar e9:Array Bool) (i:Nat),ar.size=ops.size->e9.size=ops.size->(∀i,i<ops.size->e9.getD (pos i p 0) false=ar.getD i false)->i∈Region.ready .any ops ar->i<ops.size/\pos i p 0∈Region.ready .any (Q5 p ops) e9:=by
  intro ar e9 i h1 h2 h3 hi
  obtain⟨o,ho,g1,g2⟩:=(AU h1).1 hi
  have bd:=(Array.getElem?_eq_some_iff.1 ho).1
  refine⟨bd,(AU (by rw[h2,fp])).2 ⟨_,Vj hp (HR hp bd).2 ho,by rw[h3 i bd];exact g1,λe he hb=>?_⟩⟩
  simp only[MC,gP]at he
  obtain⟨e',Aa,rfl⟩:=he
  have:=g2 e' Aa hb
  have Kp:e'.on<ops.size:=by
   by_cases h:e'.on<ops.size
   ·exact h
   ·rw[aY,dif_neg (by omega)]at this;cases this
  show e9.getD (pos e'.on p 0) false=true
  rw[h3 _ Kp];exact this
 have down:∀(ar e9:Array Bool) (k:Nat),ar.size=ops.size->e9.size=ops.size->(∀i,i<ops.size->e9.getD (pos i p 0) false=ar.getD i false)->k∈Region.ready .any (Q5 p ops) e9->∃i,i∈Region.ready .any ops ar:=by
  intro ar e9 k h1 h2 h3 hk
  obtain⟨o',jn,g1,g2⟩:=(AU (by rw[h2,fp])).1 hk
  have bd:=(Array.getElem?_eq_some_iff.1 jn).1
  rw[fp]at bd
  have Bo:p[k]?=some p[k]:=List.getElem?_eq_getElem (by omega)
  have hi:=f3 _ (fL Bo)
  have ho:ops[p[k]]?=some ops[p[k]]:=aU hi
  have Rl:pos p[k] p 0=k:=by
   have:=(HR hp hi).2
   exact(List.getElem?_inj (by have:=(HR hp hi).1;omega) f4).1 (this.trans Bo.symm)
  have h4:=Vj hp Bo ho
  rw[jn]at h4;cases h4
  refine⟨p[k],(AU h1).2 ⟨_,ho,by rw[<-h3 _ hi,Rl];exact g1,λe he hb=>?_⟩⟩
  have:=g2 (Dt p e) (by simp only[MC,gP];exact⟨e,he,rfl⟩) hb
  have this:e9.getD (pos e.on p 0) false=true:=this
  have Kp:pos e.on p 0<ops.size:=by
   by_cases h:pos e.on p 0<ops.size
   ·exact h
   ·rw[aY,dif_neg (by omega)]at this;cases this
  rw[<-h3 _ (Zl7 hp Kp)];exact this
 intro fuel
 induction fuel with
 |zero=>
  intro ar e9 a w h1 h2 h3 h
  refine⟨?_,h.2⟩
  cases hr:Region.ready .any ops ar with
  |nil=>rfl
  |cons i l=>
   have:=(up ar e9 i h1 h2 h3 (by rw[hr];simp)).2
   rw[h.1]at this;cases this
 |succ fuel ih=>
  intro ar e9 a w h1 h2 h3 h
  refine⟨λhe=>h.1 ?_,λi hi=>?_⟩
  ·cases hr:Region.ready .any (Q5 p ops) e9 with
   |nil=>rfl
   |cons k l=>
    obtain⟨i,hi⟩:=down ar e9 k h1 h2 h3 (by rw[hr];simp)
    rw[he]at hi;cases hi
  ·obtain⟨bd,iD⟩:=up ar e9 i h1 h2 h3 hi
   refine yy hp bd (λa' w' hk=>ih _ _ a' w' (by simpa using h1) (by simpa using h2) (λk hk=>?_) hk) (h.2 _ iD)
   have hpi:=(HR hp bd)
   have Bo:=(HR hp hk)
   have gs:∀(A:Array Bool) (x y:Nat),x<A.size->(A.setIfInBounds x true).getD y false=if x=y then true else A.getD y false:=λA x y hx=>by
    simp only[aQ,Array.getElem?_setIfInBounds]
    split
    ·rename_i e;subst e;simp[hx]
    ·rfl
   rw[gs _ _ _ (by omega),gs _ _ _ (by omega)]
   by_cases e:i=k
   ·subst e;simp
   ·have gq:pos i p 0≠pos k p 0:=λe'=>by
     have:=Bo.2
     rw[<-e',hpi.2]at this
     exact e (Option.some.inj this)
    rw[if_neg e,if_neg gq];exact h3 k hk
end
theorem Zo8{ro:Option Nat}(hm:P.follows .mixedOrders=true){N M id:Nat}{Q:Ex->St->Prop}(hT:jg P T)(hG:jA P G){p:List Nat}(hp:Vh p ops.size=true)(h:mb T G N M (Q5 p ops) (Q5 p ops).toList st λst=>cu (Rd G (Q5 p ops) st.env) (Q .normal st)):tV ro P N M (.region id ops true) st Q:=by
 intro c0 w0 c w a hs
 have hs:=hs.drew
 refine Qw9 hm ?_
 refine Zt5 hp ops.size _ (gE ops.size false) a _ (by simp) (by simp) (λi hi=>by simp[aY,(HR hp hi).1,hi]) ?_
 obtain⟨s,ks,val,h1,h2,h3,h4,h5,h6⟩:=Zkf hT hG (Q5 p ops).toList 0 st (by simp) h
 have hc:Vf P G N M (Q5 p ops) s ks val:=⟨⟨λi o ho=>h3 i o (bC _) ho,λi o t ho=>h4 i o t (bC _) ho,λi o t ho=>h5 i o t (bC _) ho⟩,λi o ho=>h6 i o (bC _) ho⟩
 have fp:s (0+(Q5 p ops).toList.length)=s (Q5 p ops).size:=by simp
 rw[fp]at h2
 obtain⟨hd,h2⟩:=dd.1 h2
 have kY:=Qro hp
 obtain⟨d,g1,g2,g3,g4⟩:=Qk G (Q5 p ops) _ 0 rfl (bC _)
 have hz:∀i,(gE (Q5 p ops).size false).getD i false=false:=λi=>by
  by_cases h:i<(Q5 p ops).size
  ·simp[aY,h]
  ·simp[aY,h]
 rw[<-kY]
 refine xy hc hd (Q:=λe a' w'=>∃ex jo c',mV e=some ex/\Q ex jo/\ff N M c0 w0 c' w' jo a') (λc w a iS=>⟨_,_,c,rfl,h2,iS⟩) (Q5 p ops).size _ a _ 0 d (by simp) (Wf _ _)
  ⟨g1,g2,λi hi=>by omega,g3,g4,λj hj=>by simp[hz]at hj,hs.size,hs.defers,hs.fw,hs.gr,c,λ_=>0,hs.mem,λr=>?_,λt _ _=>?_,hs.reach,λi _ hl=>by simp[hz]at hl,λi j _ _ hl=>by simp[hz]at hl⟩
 ·rw[SA (λi _=>hz _),h1];exact hs.rows r
 ·rw[Sz (λi _=>hz _),h1];exact hs.env t
theorem qz(hm:P.follows .mixedOrders=true):pD P:=by
 intro ro T G N M id ops st Q hT hG h
 unfold uU at h
 split at h
 ·rename_i hd
  exact xa hm ro T G N M id ops st Q hT hG hd h
 ·obtain⟨h1,h2⟩:=dd.1 h
  exact Zo8 hm hT hG h1 h2
