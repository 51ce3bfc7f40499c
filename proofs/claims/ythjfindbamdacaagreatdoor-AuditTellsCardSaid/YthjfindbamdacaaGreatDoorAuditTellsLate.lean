import Derived.Test.YthjfindbamdacaaGreatDoorAuditTellsDraw
open List renaming mem_cons_self->gW,getD->aK,getElem?_eq_none->aM,mem_of_getElem?->fX,mem_append_left->gQ,mem_append_right->gP,mem_filter->gY,mem_range->gZ
open Array renaming mem_toList_iff->gX,toArray_toList->bS,getElem?_eq_getElem->aJ,getElem?_setIfInBounds_ne->aQ,getD->aP,getD_eq_getD_getElem?->aF,getElem?_eq_none->cL,mem_map->hH,replicate->gN
open Option renaming bind_some->aL,map_some->aR,getD_some->aG
open Bool renaming or_eq_true->aI,false_eq_true->aN,not_eq_true'->aS
open Nat renaming lt_of_lt_of_le->bI,le_refl->aO,add_zero->bG,zero_le->aT
set_option linter.all false
namespace Go.GD
open Go
set_option linter.unusedSectionVars false
theorem Z99{pl:Bool}{ty:rm}{d:D}{K:D->Prop}(h:uV pl ty d K):∃d',K d'/\∀K2:D->Prop,K2 d'->uV pl ty d K2:=by
 cases ty<;>simp only[uV]at h⊢
 ·exact⟨_,(c9.1 h).2,λK2 h2=>c9.2 ⟨(c9.1 h).1,h2⟩⟩
 ·exact⟨_,(c9.1 h).2,λK2 h2=>c9.2 ⟨(c9.1 h).1,h2⟩⟩
 ·exact⟨_,(c9.1 h).2,λK2 h2=>c9.2 ⟨(c9.1 h).1,h2⟩⟩
 ·cases pl
  ·simp only[D.cv]at h⊢
   exact⟨_,(c9.1 h).2,λK2 h2=>c9.2 ⟨(c9.1 h).1,h2⟩⟩
  ·exact⟨_,(c9.1 h).2,λK2 h2=>c9.2 ⟨(c9.1 h).1,h2⟩⟩
 ·cases pl
  ·simp only[D.cv]at h⊢
   exact⟨_,(c9.1 h).2,λK2 h2=>c9.2 ⟨(c9.1 h).1,h2⟩⟩
  ·cases d<;>first|exact h.elim|exact⟨_,h,λK2 h2=>h2⟩
theorem Qt0{pl:Bool}{e:List D}:∀{da:List rm} {off:Nat} {K:List D->Prop},JN pl e da off K->∃ds,K ds/\∀K2:List D->Prop,K2 ds->JN pl e da off K2
 |[],off,K,h=>⟨[],h,λK2 h2=>h2⟩
 |t::ts,off,K,h=>by
  simp only[JN]at h⊢
  obtain⟨d,hd,h1⟩:=Z99 h
  obtain⟨ds,ED,h2⟩:=Qt0 hd
  exact⟨_,ED,λK2 hk=>h1 _ (h2 _ hk)⟩
theorem Vf{pl:Bool}{ti:TI}{e:List D}{off:Nat}{K:D->Prop}(h:uW pl ti e off K):∃d,K d/\∀K2:D->Prop,K2 d->uW pl ti e off K2:=by
 unfold uW at h
 cases hg:ti.kind.isAgg with
 |true=>
  simp only[hg]at h
  obtain⟨ds,h1,h2⟩:=Qt0 h
  exact⟨_,h1,λK2 hk=>by unfold uW;simp only[hg];exact h2 _ hk⟩
 |false=>
  simp only[hg]at h
  split at h
  ·rename_i y hy
   obtain⟨d,h1,h2⟩:=Z99 h
   exact⟨_,h1,λK2 hk=>by unfold uW;simp only[hg,hy];exact h2 _ hk⟩
  ·exact h.elim
theorem Zgv{T:fj}{t:TypeId}{r i off:Nat}{R:Rows}{K:D->Rows->Prop}(h:Ab T t (.ptr r i off) R K):
 ∃d,K d R/\(∃row,R.getD r none=some row)/\∀R2:Rows,R2.getD r none=R.getD r none->Ab T t (.ptr r i off) R2 λd' R'=>d'=d/\R'=R2:=by
 unfold Ab at h
 cases hT:T.get t with
 |none=>simp only[hT]at h
 |some ti=>
  simp only[hT]at h
  cases hr:R.getD r none with
  |none=>simp only[hr]at h
  |some row=>
   obtain⟨box,ty,sz,es⟩:=row
   simp only[hr,c9]at h
   obtain⟨h0,h⟩:=h
   obtain⟨d,h1,h2⟩:=Vf h
   refine⟨d,h1,?_,λR2 uT=>?_⟩
   ·exact⟨_,rfl⟩
   ·unfold Ab
    simp only[hT,uT,c9]
    exact⟨h0,h2 _ (by simp)⟩
theorem Zqg{d:D}(h:pL d=true)(ks:List Nat):d.gk ks=d.eh ks:=by cases d<;>first|rfl|cases h
theorem Zpo{pl:Bool}{ty:rm}{d d':D}{ks:List Nat}(h:uV pl ty d λx=>x=d')(hd:d'.eh ks=d'):d.eh ks=d:=by
 cases ty<;>simp only[uV]at h
 ·cases d<;>first|rfl|(simp[D.isInt,c9]at h;done)
 ·cases d<;>first|rfl|(simp[D.isBool,c9]at h;done)
 ·cases d<;>first|rfl|(simp[D.isStr,c9]at h;done)
 ·cases pl
  ·simp only[D.cv,c9]at h
   rw[h.2];exact hd
  ·simp only[c9]at h
   cases d<;>first|rfl|(simp[D.FV,c9]at h;done)
 ·cases pl
  ·simp only[D.cv,c9]at h
   rw[h.2];exact hd
  ·cases d<;>first|exact h.elim|rfl
theorem Z9l{ks:List Nat}:∀{l:List D} {j:Nat},(D.kD ks l).getD j .dead=(l.getD j .dead).eh ks
 |[],_=>rfl
 |_::_,0=>rfl
 |_::l,j+1=>Z9l (l:=l) (j:=j)
theorem Zlh(ks:List Nat)(row:Row)(i off:Nat):((row.kill ks).es.get i).getD off .dead=(row.es.get i).getD off .dead\/((row.kill ks).es.get i).getD off .dead=((row.es.get i).getD off .dead).eh ks:=by
 unfold Row.kill
 split
 ·rename_i ty sz e
  cases i with
  |zero=>exact .inr Z9l
  |succ i=>exact .inl rfl
 ·exact .inl rfl
theorem Zlv{pl:Bool}{ti:TI}{row:Row}{i off:Nat}{v:D}{ks:List Nat}(h:uW pl ti (row.es.get i) off λx=>x=v)(hv:pL v=true)(hk:v.eh ks=v):uW pl ti ((row.kill ks).es.get i) off λx=>x=v:=by
 unfold uW at h⊢
 cases hg:ti.kind.isAgg with
 |true=>
  simp only[hg]at h
  obtain⟨ds,h1,_⟩:=Qt0 h
  rw[<-h1]at hv;cases hv
 |false=>
  simp only[hg]at h⊢
  split at h
  ·rename_i y hy
   have e:((row.kill ks).es.get i).getD off .dead=(row.es.get i).getD off .dead:=by
    rcases Zlh ks row i off with e|e
    ·exact e
    ·rw[e];exact Zpo h hk
   rw[e];exact h
  ·exact h.elim
theorem Qyo{pl:Bool}{ti:TI}{i off:Nat}{v:D}(hv:pL v=true):∀{L:List (List Nat)} {row:Row},(∀kk∈L,v.eh kk=v)->(uW pl ti (row.es.get i) off λx=>x=v)->uW pl ti ((L.foldl (λr k=>Row.kill k r) row).es.get i) off λx=>x=v
 |[],_,_,h=>h
 |k::L,row,hL,h=>Qyo hv (L:=L) (row:=row.kill k) (λkk hk=>hL kk (List.mem_cons_of_mem _ hk)) (Zlv h hv (hL k (gW ..)))
theorem Z35:∀(L:List (List Nat)) (row:Row),(L.foldl (λr k=>Row.kill k r) row).box=row.box/\(L.foldl (λr k=>Row.kill k r) row).sz=row.sz
 |[],_=>⟨rfl,rfl⟩
 |k::L,row=>by
  obtain⟨k1,k2,k3,k4⟩:=wF k row
  obtain⟨h1,h2⟩:=Z35 L (row.kill k)
  exact⟨h1.trans k1,h2.trans k3⟩
theorem Zr3{T:fj}{t:TypeId}{r i off:Nat}{R R2:Rows}{v:D}{row:Row}{L:List (List Nat)}(h:Ab T t (.ptr r i off) R λd' R'=>d'=v/\R'=R)(hv:pL v=true)(hL:∀kk∈L,v.eh kk=v)(hr:R.getD r none=some row)(uT:R2.getD r none=some (L.foldl (λr k=>Row.kill k r) row)):
 Ab T t (.ptr r i off) R2 λd' R'=>d'=v/\R'=R2:=by
 obtain⟨s1,s2⟩:=Z35 L row
 unfold Ab at h⊢
 cases hT:T.get t with
 |none=>simp only[hT]at h
 |some ti=>
  simp only[hT,hr]at h
  simp only[hT,uT]
  obtain⟨box,ty,sz,es⟩:=row
  simp only at h s1 s2
  generalize cr:L.foldl (λr k=>Row.kill k r) (⟨box,ty,sz,es⟩:Row)=jE at s1 s2⊢
  obtain⟨Rg,ty2,sz2,es2⟩:=jE
  simp only at s1 s2⊢
  subst s1;subst s2
  simp only[c9]at h⊢
  refine⟨h.1,?_⟩
  have hx:uW (!Rg) ti (es.get i) off λx=>x=v:=by
   obtain⟨d,h1,h2⟩:=Vf h.2
   exact h2 _ h1.1
  have:=Qyo (L:=L) (row:=⟨Rg,ty,sz2,es⟩) hv hL hx
  rw[cr]at this
  obtain⟨d,h1,h2⟩:=Vf this
  exact h2 _ ⟨h1,by first|trivial|rfl⟩
theorem Zcy{T:fj}{t:TypeId}{r i off:Nat}{d:D}{R:Rows}{K:D->Rows->Prop}(h:HH T t (.ptr r i off) d R K):
 ∃R',K .dead R'/\(∀r',r'≠r->R'.getD r' none=R.getD r' none)/\HH T t (.ptr r i off) d R λd' R2=>d'=.dead/\R2=R':=by
 unfold HH at h
 cases hT:T.get t with
 |none=>simp only[hT]at h
 |some ti=>
  simp only[hT]at h
  cases hr:R.getD r none with
  |none=>simp only[hr]at h
  |some row=>
   obtain⟨box,ty,sz,es⟩:=row
   simp only[hr,c9]at h
   obtain⟨h0,h⟩:=h
   have rz:∀(x:Option Row) (r':Nat),r'≠r->(R.set r x).getD r' none=R.getD r' none:=λx r' h=>by
    simp only[aK,List.getElem?_set_ne (Ne.symm h)]
   cases box with
   |true=>
    simp only[D.fh,nm]at h
    refine⟨_,h,rz _,?_⟩
    unfold HH
    simp only[hT,hr,c9,D.fh,nm]
    exact⟨h0,by simp⟩
   |false=>
    simp only[nm]at h
    refine⟨_,h.2,rz _,?_⟩
    unfold HH
    simp only[hT,hr,c9,nm]
    exact⟨h0,h.1,by simp⟩
structure Vg(P:Program)(o:Oper)(row:Row)(arr:Array Value):Prop where
 box:row.box=true
 sz:0<row.sz
 cells:∃e,row.es=.gen [e]/\e.length=row.sz/\arr.size=row.sz/\∀(c:Ctx) (w:World),kU c w e arr 0
 run:∀(ev:Operand->Value) (w:World),(execOp ev o).run P w=.ok (.value (.pointer (some ⟨w.heap.size,0,none⟩))) (w.alloc (.cells arr row.ty))
theorem Zpn{P:Program}{T:fj}(hT:jF P T){o:Oper}{t:TypeId}(ho:o.op=.alloc t){k:TK}{sz b:Nat}{cs:List rm}{ds:List D}{e:Bool}(ht:T.get t=some ⟨k,sz,b,cs,some ds,e⟩)(h0:0<sz)(hl:ds.length=sz):∃arr,Vg P o ⟨true,t,sz,.gen [ds]⟩ arr:=by
 obtain⟨i,u,hi,hu,hz,_,_,_,hzero⟩:=JH hT ht
 have hb:∀(c:Ctx) (w:World),U5 c w ⟨true,t,sz,.gen [ds]⟩ u.cells:=λc w=>ZH h0 hl (JR hz c w)
 have fv:u.cells.size=sz:=by have:=P1 hz;simp at this;omega
 refine⟨u.cells,⟨rfl,h0,⟨ds,rfl,hl,fv,λc w=>?_⟩,λev w=>?_⟩⟩
 ·have:=(hb c w).2
  simp only[if_true]at this
  obtain⟨e',h1,_,_,h4⟩:=this
  cases h1;exact h4
 ·simp only[execOp,ho,Instr.alloc,Sem.run_bind,hzero,Result.andThen_ok,ZI,Sem.run_pure]
structure J6(P:Program)(G:List bb)(o:Oper)(env:List (Nat×D))(R:Rows)(ks:List Nat)(val:D)(R':Rows):Prop where
 ld:∀t a r ii off,o.guard=none->o.op=.load t (.tmp a)->look env a=.ptr r ii off->ks=[]/\R'=R/\(∃row,R.getD r none=some row)/\(∀(ev:Operand->D) (R2:Rows),ev (.tmp a)=.ptr r ii off->R2.getD r none=R.getD r none->pR P o ev R2 val R2)/\∀(ev:Operand->D) (R2:Rows) row (L:List (List Nat)),pL val=true->(∀kk∈L,val.eh kk=val)->ev (.tmp a)=.ptr r ii off->R.getD r none=some row->R2.getD r none=some (L.foldl (λr k=>Row.kill k r) row)->pR P o ev R2 val R2
 st:∀t b x r ii off,o.guard=none->o.op=.store t (.tmp b) x->look env b=.ptr r ii off->ks=[]/\∀r',r'≠r->R'.getD r' none=R.getD r' none
 pu:∀q,o.guard=none->mb env o.op=some q->ks=[]/\R'=R/\∀(ev:Operand->D) (R2:Rows),(∀x∈o.op.operands,ev x=cb env x)->pR P o ev R2 val R2
 cl:∀f args da,o.guard=none->o.op=.call ⟨.value (.func f),args,da⟩->(pf G f=none/\Z3 G f=false)->ks=[]
 al:∀t,o.guard=none->o.op=.alloc t->ks=[]/\∃row arr,Vg P o row arr/\val=.ptr R.length 0 0/\R'=R++[some row]
 ap2:∀args da,o.guard=none->o.op=.call ⟨.builtin .append,args,da⟩->∀r row,R.getD r none=some row->cf r ks=false->R'.getD r none=some (row.kill ks)
 ap:∀args da x l,o.guard=none->o.op=.call ⟨.builtin .append,args,da⟩->args.toList=.tmp x::l->J7 (look env x)=true->ks=[]/\∀r row,R.getD r none=some row->R'.getD r none=some row
theorem Bk{a:Nat}:∀{l:List Operand},a∈mQ l↔Operand.tmp a∈l
 |[]=>by simp[mQ]
 |x::l=>by cases x<;>simp[mQ,Bk (l:=l)]
theorem Zjg{op:Op}{q:List Nat}(h:pM op=some q){a:Nat}(ha:Operand.tmp a∈op.operands):a∈q:=by
 unfold pM at h
 split at h
 ·cases h;rw[Bk];simpa[Op.operands]using ha
 ·cases h;rw[Bk];simpa[Op.operands]using ha
 ·cases h;rw[Bk];simpa[Op.operands]using ha
 ·cases h;rw[Bk];simpa[Op.operands]using ha
 ·cases h;rw[Bk];simpa[Op.operands]using ha
 ·cases h;rw[Bk];simpa[Op.operands]using ha
 ·cases h
theorem Zct{G:List bb}{op:Op}{q:List Nat}(h:pM op=some q):su G op=false/\Gl op=false/\(∀t x,op≠.load t x)/\(∀t x y,op≠.store t x y)/\∀c,op≠.call c:=by
 unfold pM at h
 split at h<;>first|exact⟨rfl,rfl,λ_ _ h=>(by cases h),λ_ _ _ h=>(by cases h),λ_ h=>(by cases h)⟩|cases h
theorem yP{T:fj}{op:Op}{q:List Nat}(hq:pM op=some q){ev:Operand->D}{R:Rows}{K:D->Rows->Prop}(h:ik T op ev R K):
 ∃val,K val R/\∀(iv:Operand->D) (R2:Rows),(∀x∈op.operands,iv x=ev x)->ik T op iv R2 λd R'=>d=val/\R'=R2:=by
 unfold pM at hq
 split at hq
 ·rename_i x
  simp only[ik,D.cv]at h⊢
  exact⟨_,h,λiv R2 he=>⟨he x (by simp[Op.operands]),trivial⟩⟩
 ·rename_i x
  simp only[ik,D.cv]at h⊢
  exact⟨_,h,λiv R2 he=>⟨he x (by simp[Op.operands]),trivial⟩⟩
 ·rename_i x n
  simp only[ik]at h⊢
  split at h
  ·rename_i ds ED
   simp only[c9,D.cv]at h
   refine⟨_,h.2,λiv R2 he=>?_⟩
   rw[he x (by simp[Op.operands]),ED]
   simp only[c9,D.cv]
   exact⟨h.1,trivial,trivial⟩
  ·exact h.elim
 ·rename_i x
  simp only[ik]at h⊢
  split at h
  ·rename_i hx
   refine⟨_,h,λiv R2 he=>?_⟩
   rw[he x (by simp[Op.operands]),hx]
   simp
  ·rename_i hx
   refine⟨_,h,λiv R2 he=>?_⟩
   rw[he x (by simp[Op.operands]),hx]
   simp
  ·exact h.elim
 ·rename_i t x f
  simp only[ik]at h⊢
  split at h
  ·simp only[c9]at h⊢
   obtain⟨h0,h⟩:=h
   split at h
   ·rename_i hx
    refine⟨_,h,λiv R2 he=>⟨h0,?_⟩⟩
    rw[he x (by simp[Op.operands]),hx]
    simp
   ·rename_i hx
    refine⟨_,h,λiv R2 he=>⟨h0,?_⟩⟩
    rw[he x (by simp[Op.operands]),hx]
    simp
   ·exact h.elim
  ·exact h.elim
 ·rename_i t len parts
  simp only[ik]at h⊢
  obtain⟨val,h1,h2⟩:=Zj6 h
  exact⟨val,h1,λiv R2 he=>h2 iv R2 λp hp=>he p.2 (by simp[Op.operands];exact⟨p.1,by simpa using hp⟩)⟩
 ·cases hq
theorem zu{T:fj}{G:List bb}{N M:Nat}{o:Oper}{q:List Nat}(hq:pM o.op=some q){st:St}{K:St->Prop}(h:lX T G N M o st K):ik T o.op (cb st.env) st.rows λd R=>st.put N o.dst d R K:=by
 obtain⟨dst,op,type,pos,after,guard⟩:=o
 simp only at hq⊢
 unfold pM at hq
 split at hq<;>first|exact h|cases hq
theorem xan{T:fj}{op:BinOp}{t:TypeId}{x y:D}{K:D->Prop}(h:ta T op t x y K):∃val,K val/\∀K',K' val->ta T op t x y K':=by
 unfold ta at h⊢
 split at h
 ·split at h
  ·simp only[c9]at h⊢;exact⟨_,h.2,λK' h'=>⟨h.1,h'⟩⟩
  ·simp only[c9]at h⊢;exact⟨_,h.2,λK' h'=>⟨h.1,h'⟩⟩
  ·rename_i n1 n2
   simp only[c9]at h⊢
   obtain⟨h1,h⟩:=h
   unfold U0 at h⊢
   split at h<;>first|exact⟨_,h,λK' h'=>⟨h1,h'⟩⟩|(simp only[c9]at h⊢;exact⟨_,h.2,λK' h'=>⟨h1,h.1,h'⟩⟩)|exact h.elim
 ·split at h<;>first|exact⟨_,h,λK' h'=>h'⟩|(simp only[c9]at h⊢;exact⟨_,h.2,λK' h'=>⟨h.1,h'⟩⟩)|exact h.elim
 ·split at h
  ·split at h<;>first|exact⟨_,h,λK' h'=>h'⟩|exact h.elim
  ·exact h.elim
 ·split at h
  ·simp only[c9]at h⊢
   obtain⟨h1,h⟩:=h
   split at h<;>first|exact⟨_,h,λK' h'=>⟨h1,h'⟩⟩|exact h.elim
  ·exact h.elim
 ·exact h.elim
theorem vP{T:fj}{s d:TypeId}{x:D}{K:D->Prop}(h:MM T s d x K):∃val,K val/\∀K',K' val->MM T s d x K':=by
 unfold MM at h⊢
 split at h
 ·split at h
  ·exact⟨_,h,λK' h'=>h'⟩
  ·exact h.elim
 ·split at h
  ·exact⟨_,h,λK' h'=>h'⟩
  ·exact h.elim
 ·exact h.elim
theorem Zap{place:Nat->Option (Nat×Nat)}{ev:Operand->D}:∀{parts:List (Nat×Operand)} {cs:List D} {K:List D->Prop},F0 place ev parts cs K->∃l,K l/\∀(iv:Operand->D) (K':List D->Prop),(∀p∈parts,iv p.2=ev p.2)->K' l->F0 place iv parts cs K'
 |[],cs,K,h=>by
  simp only[F0,D.fh]at h⊢
  exact⟨_,h,λiv K' _ h'=>h'⟩
 |(i,x)::ps,cs,K,h=>by
  simp only[F0]at h⊢
  split at h
  ·rename_i off n hp
   simp only[c9]at h
   obtain⟨h1,h⟩:=h
   obtain⟨l,g1,g2⟩:=Zap h
   refine⟨l,g1,λiv K' he h'=>?_⟩
   have hx:=he (i,x) (by simp)
   simp only at hx
   simp only[hx,c9]
   exact⟨h1,g2 iv K' (λp hpp=>he p (by simp[hpp])) h'⟩
  ·exact h.elim
theorem yu{T:fj}{t:TypeId}{parts:List (Nat×Operand)}{ev:Operand->D}{R:Rows}{K:D->Rows->Prop}(h:MO T t parts ev R K):∃val,K val R/\∀(iv:Operand->D) (R2:Rows),(∀p∈parts,iv p.2=ev p.2)->MO T t parts iv R2 λd R'=>d=val/\R'=R2:=by
 unfold MO at h⊢
 split at h
 ·simp only[c9]at h⊢
  obtain⟨h1,h⟩:=h
  obtain⟨l,g1,g2⟩:=Zap h
  exact⟨_,g1,λiv R2 he=>⟨h1,g2 iv _ he (by simp)⟩⟩
 ·simp only[c9]at h⊢
  obtain⟨h1,h⟩:=h
  obtain⟨l,g1,g2⟩:=Zap h
  exact⟨_,g1,λiv R2 he=>⟨h1,g2 iv _ he (by simp)⟩⟩
 ·exact h.elim
theorem Z51{T:fj}{t:TypeId}{str:List UInt8}{lo hi:Option Operand}{ev:Operand->D}{R:Rows}{K:D->Rows->Prop}(h:MN T t (.str str) lo hi ev R K):∃val,K val R/\∀(iv:Operand->D) (R2:Rows),(∀y,lo=some y->iv y=ev y)->(∀y,hi=some y->iv y=ev y)->MN T t (.str str) lo hi iv R2 λd R'=>d=val/\R'=R2:=by
 have Rh:∀(x:Option Operand) (n:Int) (iv:Operand->D),(∀y,x=some y->iv y=ev y)->sg x iv n=sg x ev n:=λx n iv he=>by
  unfold sg
  cases x with
  |none=>rfl
  |some y=>simp only[he y rfl]
 unfold MN at h⊢
 split at h
 ·rename_i x1 x2 x3 x4 x5 ht
  simp only at h
  split at h
  ·rename_i l hh e1 e2
   simp only[c9]at h
   refine⟨_,h.2,λiv R2 he1 he2=>?_⟩
   simp only[Rh _ _ iv he1,Rh _ _ iv he2,e1,e2,c9]
   exact⟨h.1,trivial,trivial⟩
  ·exact h.elim
 ·simp only at h
 ·exact h.elim
 ·exact h.elim
theorem vu{T:fj}{env:List (Nat×D)}{op:Op}{q:List Nat}(hq:mb env op=some q){R:Rows}{K:D->Rows->Prop}(h:ik T op (cb env) R K):
    ∃val,K val R/\ ∀(iv:Operand->D) (R2:Rows),(∀x∈op.operands,iv x=cb env x)->ik T op iv R2 λd R'=>d=val/\R'=R2:=by
  unfold mb at hq
  split at hq
  . rename_i q' hp;exact yP hp h
  . split at hq
    . rename_i t parts hn
      simp only[ik]at h⊢
      obtain⟨val,g1,g2⟩:=yu h
      exact⟨val,g1,λiv R2 he=>g2 iv R2 λp hp=>he p.2 (by simp [Op.operands];exact⟨p.1,by simpa using hp⟩)⟩
    . rename_i op' t x y ty hn
      simp only[ik]at h⊢
      obtain⟨val,g1,g2⟩:=xan h
      refine⟨val,g1,λiv R2 he=> ?_⟩
      rw[he x (by simp [Op.operands]),he y (by simp [Op.operands])]
      exact g2 _ (by simp)
    . rename_i op' t x hn
      simp only[ik]at h⊢
      split at h
      all_goals first
        |exact h.elim
        | (rename_i hx
           refine⟨_,h,λiv R2 he=> ?_⟩
           rw[he x (by simp [Op.operands]),hx]
           simp)
    . rename_i s d x hn
      simp only[ik]at h⊢
      obtain⟨val,g1,g2⟩:=vP h
      refine⟨val,g1,λiv R2 he=> ?_⟩
      rw[he x (by simp [Op.operands])]
      exact g2 _ (by simp)
    . rename_i s x f hn
      simp only[ik]at h⊢
      split at h
      . split at h
        . rename_i cs ti hx ht
          simp only[c9]at h
          obtain⟨h1,h⟩:=h
          split at h
          . rename_i Dg
            simp only[D.fh]at h
            refine⟨_,h,λiv R2 he=> ?_⟩
            simp only[he x (by simp [Op.operands]),hx,ht,c9,Dg,D.fh]
            exact⟨h1,trivial,trivial⟩
          . rename_i Dg
            simp only[c9,D.cv]at h
            refine⟨_,h.2,λiv R2 he=> ?_⟩
            simp only[he x (by simp [Op.operands]),hx,ht,c9,Dg,D.cv]
            exact⟨h1,h.1,trivial,trivial⟩
        . exact h.elim
      . exact h.elim
    . rename_i t x y hn
      simp only[ik]at h⊢
      split at h
      . rename_i ht hx hy
        simp only[c9]at h
        refine⟨_,h.2,λiv R2 he=> ?_⟩
        simp only[he x (by simp [Op.operands]),he y (by simp [Op.operands]),hx,hy,ht,c9]
        exact⟨h.1,trivial,trivial⟩
      . rename_i ht hx hy
        simp only[c9]at h
        obtain⟨h1,h⟩:=h
        split at h
        . rename_i Am
          refine⟨_,h.2,λiv R2 he=> ?_⟩
          simp only[he x (by simp [Op.operands]),he y (by simp [Op.operands]),hx,hy,ht,c9,Am]
          exact⟨h1,h.1,trivial,trivial⟩
        . rename_i Am
          refine⟨_,h.2,λiv R2 he=> ?_⟩
          simp only[he x (by simp [Op.operands]),he y (by simp [Op.operands]),hx,hy,ht,c9,Am]
          exact⟨h1,h.1,trivial,trivial⟩
        . exact h.elim
      . exact h.elim
    . rename_i t x y z hn
      split at hq
      . rename_i str hx
        simp only[ik,hx]at h⊢
        obtain⟨val,g1,g2⟩:=Z51 h
        refine⟨val,g1,λiv R2 he=> ?_⟩
        rw[he x (by simp [Op.operands]),hx]
        exact g2 iv R2 (λu hu=>he u (by cases hu;simp [Op.operands])) (λu hu=>he u (by cases hu;simp [Op.operands]))
      . cases hq
    . rename_i t x y hn
      split at hq
      . rename_i str hx
        simp only[ik,hx]at h⊢
        obtain⟨val,g1,g2⟩:=Z51 h
        refine⟨val,g1,λiv R2 he=> ?_⟩
        rw[he x (by simp [Op.operands]),hx]
        exact g2 iv R2 (λu hu=>he u (by cases hu;simp [Op.operands])) (λu hu=>he u (by cases hu))
      . cases hq
    . rename_i t x y hn
      split at hq
      . rename_i str hx
        simp only[ik,hx]at h⊢
        obtain⟨val,g1,g2⟩:=Z51 h
        refine⟨val,g1,λiv R2 he=> ?_⟩
        rw[he x (by simp [Op.operands]),hx]
        exact g2 iv R2 (λu hu=>he u (by cases hu)) (λu hu=>he u (by cases hu;simp [Op.operands]))
      . cases hq
    . rename_i t x y hn
      split at hq
      . rename_i sz es fr hx
        simp only[ik,hx]at h⊢
        split at h
        . rename_i k n hy
          unfold U4 at h⊢
          split at h
          . rename_i ht
            simp only[c9]at h
            refine⟨_,h.2,λiv R2 he=> ?_⟩
            simp only[he x (by simp [Op.operands]),he y (by simp [Op.operands]),hx,hy,ht,c9]
            exact⟨h.1,trivial,trivial⟩
          . simp only[c9]at h
            exact h.2.elim
          . exact h.elim
        . exact h.elim
      . cases hq
    . rename_i t x hn
      split at hq
      . rename_i sz es i off hx
        simp only[ik,hx]at h⊢
        unfold Ab at h⊢
        split at h
        . exact h.elim
        . rename_i ti ht
          simp only[c9]at h
          obtain⟨d,g1,g2⟩:=Vf h.2
          refine⟨d,g1,λiv R2 he=> ?_⟩
          simp only[he x (by simp [Op.operands]),hx,ht,c9]
          exact⟨h.1,g2 _ (by simp)⟩
      . cases hq
    . rename_i args da hn
      split at hq
      . rename_i x fx
        have hxm:x∈(Op.call {callee:= .builtin .len,args:=args,argTypes:=da}).operands:=by simp [Op.operands,Call.operands];rw[<-gX,fx];simp
        simp only[ik,fx]at h⊢
        split at h
        . rename_i y t e1 e2
          cases e1
          rw[e2]at*
          split at hq
          . rename_i str hx
            simp only[hx]at h⊢
            unfold tj at h⊢
            split at h
            . simp only at h
              exact⟨_,h,λiv R2 he=>by simp only[he x hxm,hx];simp⟩
            . exact h.elim
            . exact h.elim
          . rename_i sz es fr hx
            simp only[hx]at h⊢
            unfold tj at h⊢
            split at h
            . exact h.elim
            . simp only at h
              exact⟨_,h,λiv R2 he=>by simp only[he x hxm,hx];simp⟩
            . exact h.elim
          . cases hq
        . exact h.elim
      . cases hq
    . cases hq
theorem Z5i{env:List (Nat×D)}{op:Op}{q:List Nat}(h:mb env op=some q){a:Nat}(ha:Operand.tmp a∈op.operands):a∈q:=by
 unfold mb at h
 split at h
 ·cases h;exact Zjg (by assumption) ha
 ·split at h
  all_goals first
   |(cases h;done)
   |(cases h;rw[Bk];simpa[Op.operands]using ha)
   |(split at h<;>first|(cases h;done)|(cases h;rw[Bk];simpa[Op.operands]using ha))
   |skip
  split at h
  ·rename_i x hx
   have jJ:Operand.tmp a=x:=by
    simp[Op.operands,Call.operands]at ha
    rw[<-gX,hx]at ha
    simpa using ha
   split at h<;>first|(cases h;done)|(cases h;rw[Bk,jJ];simp)
  ·cases h
theorem Z3x{G:List bb}{env:List (Nat×D)}{op:Op}{q:List Nat}(h:mb env op=some q):su G op=false/\Gl op=false/\(∀t x y,op≠.store t x y)/\(∀f args da,op≠.call ⟨.value (.func f),args,da⟩)/\∀t,op≠.alloc t:=by
 unfold mb at h
 split at h
 ·rename_i q' hp
  obtain⟨h1,h2,h3,h4,h5⟩:=Zct (G:=G) hp
  exact⟨h1,h2,h4,λ_ _ _=>h5 _,λt e=>by rw[e]at hp;cases hp⟩
 ·split at h<;>first|(cases h;done)|exact⟨rfl,rfl,λ_ _ _ h=>(by cases h),λ_ _ _ h=>(by cases h),λ_ h=>(by cases h)⟩
theorem Zq{T:fj}{G:List bb}{N M:Nat}{o:Oper}{q:List Nat}{st:St}(hq:mb st.env o.op=some q){K:St->Prop}(h:lX T G N M o st K):ik T o.op (cb st.env) st.rows λd R=>st.put N o.dst d R K:=by
 obtain⟨dst,op,type,pos,after,guard⟩:=o
 simp only at hq⊢
 unfold mb at hq
 split at hq
 ·rename_i q' hp
  exact zu (o:=⟨dst,op,type,pos,after,guard⟩) hp h
 ·split at hq
  all_goals first
   |(cases hq;done)
   |exact h
   |skip
  ·rename_i op' t x y ty hn
   unfold lX at h
   simp only at h
   split at h
   ·rename_i hx hy
    rw[hx]at hq;cases hq
   ·exact h
  ·rename_i s d x hn
   unfold lX at h
   simp only at h
   split at h
   ·exfalso
    unfold wE at h
    split at h
    ·split at h
     ·rename_i he
      split at hq
      ·rename_i hx;rw[hx]at he;cases he
      ·rename_i hx;rw[hx]at he;cases he
      ·cases hq
     ·exact h
    ·exact h
   ·exact h
def tt:D->Bool|.all _=>true|.int _ _=>true|.str _=>true|.bool _=>true|.sl _ _ _=>true|.iw _ _ _ _=>true|.ptr _ _ _=>true|.emp=>true|.du=>true|_=>false
theorem Zcj{d:D}(h:J7 d=true):tt d=true:=by cases d<;>first|rfl|cases h
theorem Qmd{d:D}(h:HT d=true):tt d=true:=by cases d<;>first|rfl|cases h
theorem Zka{ks:List Nat}{d p:D}(hp:tt p=true)(h:d.gk ks=p):d=p:=by
 subst h
 cases d with
 |all x=>simp only[D.gk,D.kill,D.eh]at hp⊢;cases hb:cf x ks<;>simp[hb,tt]at hp⊢
 |own x y z=>simp only[D.gk,D.kill,D.eh]at hp⊢;cases hb:cf x ks<;>simp[hb,tt]at hp
 |ptr x y z=>simp only[D.gk,D.kill,D.eh]at hp⊢;cases hb:cf x ks<;>simp[hb,tt]at hp⊢
 |pa x y z u v q=>simp only[D.gk,D.kill,D.eh]at hp⊢;cases hb:cf x ks<;>simp[hb,tt]at hp
 |c8 x=>simp only[D.gk,D.kill,D.eh]at hp⊢;cases hb:cf x ks<;>simp[hb,tt]at hp
 |gj f cs=>simp only[D.gk,D.kill,D.eh]at hp⊢;cases hb:nQ (oE cs) ks<;>simp[hb,tt]at hp
 |_=>first|rfl|simp[D.gk,D.kill,D.eh,tt]at hp
theorem Zpm{env mu:List (Nat×D)}{op:Op}{q:List Nat}(h:mb env op=some q)(hb: ∀a∈q,tt (look env a)=true->look mu a=look env a):mb mu op=some q:=by
  have one: ∀(x:Operand),(∀a,x= .tmp a->a∈q)->tt (cb env x)=true->cb mu x=cb env x:=λx hx hs=>by
    cases x with
    |tmp a=>exact hb a (hx a rfl) hs
    |_=>rfl
  unfold mb at h⊢
  split at h
  . exact h
  . split at h
    all_goals first
      |(cases h;done)
      |exact h
      |skip
    all_goals
      split at h
      all_goals first
        |(cases h;done)
        | (rename_i hx
           cases h
           first
             |(have:=one _ (λa e=>by rw[Bk,<-e];exact gW) (by rw[hx];rfl);rw[this,hx])
             |(have:=one _ (λa e=>by rw[Bk,<-e];simp) (by rw[hx];rfl);rw[this,hx]))
        |skip
    split at h
    all_goals first
      |(cases h;done)
      | (rename_i hx
         cases h
         have:=one _ (λa e=>by rw[Bk,<-e];exact gW) (by rw[hx];rfl);rw[this,hx])
theorem qv{T:fj}{M:Nat}{t tx:TypeId}{x y:D}{R:Rows}{K:List Nat->D->Rows->Prop}(h:My T M t tx x y R K):
 My T M t tx x y R λks d R'=>((J7 x=true->ks=[]/\∀r row,R.getD r none=some row->R'.getD r none=some row)/\∀r row,R.getD r none=some row->cf r ks=false->R'.getD r none=some (row.kill ks))/\K ks d R':=by
 have go:∀{e sz lV:Nat} {J8:List Nat} {es ys:ai},(J7 x=true->J8=[])->CX e sz lV R J8 es ys K->CX e sz lV R J8 es ys λks d R'=>((J7 x=true->ks=[]/\∀r row,R.getD r none=some row->R'.getD r none=some row)/\∀r row,R.getD r none=some row->cf r ks=false->R'.getD r none=some (row.kill ks))/\K ks d R':=by
  intro e sz lV J8 es ys hx h
  simp only[CX,c9,nm]at h⊢
  have key:∀r row,R.getD r none=some row->cf r J8=false->(se J8 R 0++[some (⟨false,e,sz,es.app ys⟩:Row)]).getD r none=some (row.kill J8):=λr row hr hm=>by
   have hl:r<R.length:=by
    by_cases hh:r<R.length
    ·exact hh
    ·simp only[aK,aM (show R.length<=r by omega)]at hr;cases hr
   rw[Qnj (by rw[JD];exact hl),P0,hr,Nat.zero_add,hm]
   simp
  refine⟨h.1,⟨λe=>⟨hx e,λr row hr=>?_⟩,key⟩,h.2⟩
  have:=key r row hr (by rw[hx e];rfl)
  rw[this,hx e,Z3r]
 unfold My at h⊢
 split at h
 ·split at h
  ·split at h
   ·rename_i ka
    simp only[c9]at h⊢
    refine⟨h.1,?_⟩
    have h:=h.2
    cases x<;>first|(exact h.elim;done)|(exact go (λ_=>rfl) h;done)|skip
    all_goals
     (try simp only at h⊢)
     split at h
     ·exact⟨h.1,go (λe=>by cases e) h.2⟩
     ·exact h.elim
   ·exact h.elim
  ·exact h.elim
 ·exact h.elim
theorem Zp1{P:Program}{T:fj}(hT:jF P T){G:List bb}(hG:j5 P G){N M:Nat}{ops:Array Oper}{o:Oper}{l:List Oper}{st:St}{K:St->Prop}(h:mf T G N M ops (o::l) st K):
    ∃ks val R' iO,(∀t,look iO t=look (sr ks st.env) t)/\(∀t,o.dst=some t->t<N)/\nA P G M ops o st.env st.rows ks val R'/\mf T G N M ops l ⟨ss iO o.dst val,R'⟩ K/\J6 P G o st.env st.rows ks val R':=by
  by_cases hL: ∃t a r ii off,o.guard=none/\o.op= .load t (.tmp a)/\look st.env a= .ptr r ii off
  . obtain⟨t,a,r,ii,off,hg,ho,ha⟩:=hL
    simp only[mf,hg,lX,ho,ik,cb,ha]at h
    obtain⟨d,h1,h2,h3⟩:=Zgv h
    obtain⟨g1,g2⟩:=ph h1
    have hN: ∀(ev:Operand->D) (R2:Rows),ev (.tmp a)= .ptr r ii off->R2.getD r none=st.rows.getD r none->pR P o ev R2 d R2:=λev R2 he uT=>by
      have:=h3 R2 uT
      obtain⟨val,R',⟨rfl,rfl⟩,hO⟩:=Nu hT o ev R2 (λd' R'=>d'=d/\R'=R2) (by simp only[ho,ik,he];exact this)
      simpa [ho,Gl] using hO
    have hN2: ∀(ev:Operand->D) (R2:Rows) row (L:List (List Nat)),pL d=true->(∀kk∈L,d.eh kk=d)->ev (.tmp a)= .ptr r ii off->st.rows.getD r none=some row->R2.getD r none=some (L.foldl (λr k=>Row.kill k r) row)->pR P o ev R2 d R2:=λev R2 row L hd hL he hr uT=>by
      have:=Zr3 (h3 st.rows rfl) hd hL hr uT
      obtain⟨val,R',⟨rfl,rfl⟩,hO⟩:=Nu hT o ev R2 (λd' R'=>d'=d/\R'=R2) (by simp only[ho,ik,he];exact this)
      simpa [ho,Gl] using hO
    refine⟨[],d,st.rows,st.env,λt=>o9.symm,g1,?_,g2,λt' a' r' mn iT _ jd jJ=> ?_,λt' b x r' mn iT _ jd=> ?_,λq _ hq=> ?_,λf args da _ hf _=>by simp [ho]at hf,λt' _ hf=>by simp [ho]at hf,λargs da _ hf=>by simp [ho]at hf,λargs da x' l' _ hf=>by simp [ho]at hf⟩
    . unfold nA
      simp only[hg]
      exact BY (by rw[ho];rfl) (hN _ _ (by simp [cb,ha]) rfl)
    . rw[ho]at jd;cases jd
      rw[ha]at jJ;cases jJ
      exact⟨rfl,rfl,h2,hN,hN2⟩
    . rw[ho]at jd;cases jd
    . rw[ho]at hq;simp [mb,pM,cb,ha]at hq
  . by_cases hS : ∃t b x r ii off,o.guard=none/\o.op= .store t (.tmp b) x/\look st.env b= .ptr r ii off
    . obtain⟨t,b,x,r,ii,off,hg,ho,hb⟩:=hS
      simp only[mf,hg,lX,ho,ik]at h
      rw[show cb st.env (.tmp b)= .ptr r ii off by simp [cb,hb]]at h
      obtain⟨R',h1,h2,h3⟩:=Zcy h
      obtain⟨g1,g2⟩:=ph h1
      obtain⟨val,R2,⟨rfl,rfl⟩,hO⟩:=Nu hT o (cb st.env) st.rows (λd' R2=>d'= .dead/\R2=R') (by simp only[ho,ik];rw[show cb st.env (.tmp b)= .ptr r ii off by simp [cb,hb]];exact h3)
      refine⟨[], .dead,R2,st.env,λt=>o9.symm,g1,?_,g2,λt' a' r' mn iT _ jd=> ?_,λt' b' x' r' mn iT _ jd tI=> ?_,λq _ hq=> ?_,λf args da _ hf _=>by simp [ho]at hf,λt' _ hf=>by simp [ho]at hf,λargs da _ hf=>by simp [ho]at hf,λargs da x' l' _ hf=>by simp [ho]at hf⟩
      . unfold nA
        simp only[hg]
        have hO':EY P o (cb st.env) st.rows .dead R2:=by simpa [ho,Gl] using hO
        exact BZ (by rw[ho];rfl) (λk hk=>by simp [cf]at hk) hO'.toK
      . rw[ho]at jd;cases jd
      . rw[ho]at jd;cases jd
        rw[hb]at tI;cases tI
        exact⟨rfl,h2⟩
      . rw[ho]at hq;cases hq
    . by_cases hP : ∃q,o.guard=none/\mb st.env o.op=some q
      . obtain⟨q,hg,hq⟩:=hP
        simp only[mf,hg]at h
        have rW:=Zq hq h
        obtain⟨val,Jab,Jac⟩:=vu hq rW
        obtain⟨hW,hS',Nh,hnc,hna⟩:=Z3x (G:=G) hq
        have hN: ∀(ev:Operand->D) (R2:Rows),(∀x∈o.op.operands,ev x=cb st.env x)->pR P o ev R2 val R2:=λev R2 he=>by
          obtain⟨Jay,R',⟨rfl,rfl⟩,hO⟩:=Nu hT o ev R2 _ (Jac ev R2 he)
          simpa [hS'] using hO
        obtain⟨g1,g2⟩:=ph Jab
        refine⟨[],val,st.rows,st.env,λt=>o9.symm,g1,?_,g2,λt' a' r' mn iT S1 jd jJ=>(hL ⟨t',a',r',mn,iT,S1,jd,jJ⟩).elim,λt' b' x' r' mn iT _ jd=>(Nh _ _ _ jd).elim,λq' _ F7=>⟨rfl,rfl,hN⟩,λf args da _ hf _=>(hnc _ _ _ hf).elim,λt' _ hf=>(hna _ hf).elim,λargs da _ hf=>by rw[hf]at hq;simp [mb,pM]at hq,λargs da x' l' _ hf=>by rw[hf]at hq;simp [mb,pM]at hq⟩
        unfold nA
        simp only[hg]
        exact BY hW (hN _ _ (λ_ _=>rfl))
      . by_cases hC: ∃f args da,o.guard=none/\o.op= .call ⟨.value (.func f),args,da⟩/\(pf G f=none/\Z3 G f=false)
        . obtain⟨f,args,da,hg,ho,lW,DW⟩:=hC
          obtain⟨dst,op,type,pos,after,guard⟩:=o
          simp only at hg ho
          subst hg;subst ho
          simp only[mf,lX,lW,DW]at h
          have Iw: ∀x,oU G f=some x->x.pj=false:=λx hx=>by simpa [Z3,hx] using DW
          obtain⟨val,R',x,hK,hx,hO,hN⟩:=Wn (dst:=dst) (type:=type) (pos':=pos) (after:=after) (guard:=none) (da:=da) hG lW h
          obtain⟨g1,g2⟩:=ph hK
          refine⟨[],_,_,st.env,λt=>o9.symm,g1,?_,g2,λt' a' r' mn iT _ jd=>(by cases jd),λt' b' x' r' mn iT _ jd=>(by cases jd),λq' _ F7=>(by cases F7),λ_ _ _ _ _ _=>rfl,λt' _ hf=>(by cases hf),λargs da _ hf=>(by cases hf),λargs da x' l' _ hf=>(by cases hf)⟩
          unfold nA
          cases hr:x.refs with
          |nil=>exact BY (by simp only[su,hx,hr,Iw x hx]) (hN hr)
          |cons b bs=>exact BZ (by simp only[su,hx,hr]) (λk hk=>by simp [cf]at hk) hO.toK
        . by_cases hAl: ∃t,o.guard=none/\o.op= .alloc t
          . obtain⟨t,hg,ho⟩:=hAl
            obtain⟨dst,op,type,pos,after,guard⟩:=o
            simp only at hg ho
            subst hg;subst ho
            simp only[mf,lX,ik]at h
            split at h
            . rename_i ht
              simp only[c9,aE,Nx]at h
              obtain⟨⟨h0,hl⟩,h⟩:=h
              obtain⟨g1,g2⟩:=ph h
              obtain⟨arr,hA⟩:=Zpn (o:=⟨dst, .alloc t,type,pos,after,none⟩) hT rfl ht (lE h0) (bE hl)
              refine⟨[],_,_,st.env,λt=>o9.symm,g1,?_,g2,λt' a' r' mn iT _ jd=>(by cases jd),λt' b' x' r' mn iT _ jd=>(by cases jd),λq' _ F7=>(by cases F7),λ_ _ _ _ hf=>(by cases hf),λt' _ hf=>⟨rfl,_,arr,hA,rfl,rfl⟩,λargs da _ hf=>(by cases hf),λargs da x' l' _ hf=>(by cases hf)⟩
              unfold nA
              exact BY rfl (UR λc w a hm Sv eu=>⟨_,rfl,Zo3 hT ht (lE h0) (bE hl) st.rows.length c w⟩)
            . exact h.elim
          by_cases hAp: ∃args da,o.guard=none/\o.op= .call ⟨.builtin .append,args,da⟩
          . obtain⟨args,da,hg,ho⟩:=hAp
            obtain⟨dst,op,type,pos,after,guard⟩:=o
            simp only at hg ho
            subst hg;subst ho
            simp only[mf,lX]at h
            split at h
            . rename_i x y t tx nL ht
              have J9:args= #[x,y]:=by rw[<-bS (xs:=args),nL]
              have uv:da= #[t,tx]:=by rw[<-bS (xs:=da),ht]
              subst J9;subst uv
              have h':=qv h
              obtain⟨ks,R',⟨⟨Jad,CZ⟩,hK⟩,hM,hr⟩:=Znp (ty:=type) hT h'
              rw[Iv]at hK
              obtain⟨h1,h2⟩:=ph hK
              refine⟨ks,_,_,_,λt=>rfl,h1,?_,h2,λt' a' r' mn iT _ jd=>(by cases jd),λt' b' x' r' mn iT _ jd=>(by cases jd),λq' _ F7=>(by cases F7),λ_ _ _ _ hf=>(by cases hf),λt' _ hf=>(by cases hf),λargs da _ hf r row hr hm=>CZ r row hr hm,λargs da x' l' _ hf ha he=> ?_⟩
              rotate_left
              . cases hf
                have hx:x= .tmp x':=by
                  have:=congrArg List.head? ha
                  simpa using this
                subst hx
                exact Jad he
              unfold nA
              refine BZ rfl hM λc w a hm hb hR eu K' Q rp=> ?_
              obtain⟨v',w',c',iu,hn,j7,hv⟩:=hr c w _ _ hm hb hR (eu x (by simp [Op.operands,Call.operands])) (eu y (by simp [Op.operands,Call.operands]))
              refine Gm ?_ (rp v' w' c' hn j7 hv)
              simp only[execOp,resolve,Sem.run_bind,Sem.run_pure,Result.andThen_ok,invoke,builtin]
              have:(#[x,y]:Array Operand).map a.eval= #[a.eval x,a.eval y]:=by simp
              rw[this,iu];rfl
            . exact h.elim
          obtain⟨ks,val,R',iO,h0,h1,h2,h3⟩:=V0 hT hG h
          exact⟨ks,val,R',iO,h0,h1,h2,h3,λt a r ii off hg ho ha=>(hL ⟨t,a,r,ii,off,hg,ho,ha⟩).elim,λt b x r ii off hg ho hb=>(hS ⟨t,b,x,r,ii,off,hg,ho,hb⟩).elim,λq hg hq=>(hP ⟨q,hg,hq⟩).elim,λf args da hg ho lW=>(hC ⟨f,args,da,hg,ho,lW⟩).elim,λt hg ho=>(hAl ⟨t,hg,ho⟩).elim,λargs da hg ho=>(hAp ⟨args,da,hg,ho⟩).elim,λargs da x l' hg ho ha he=>(hAp ⟨args,da,hg,ho⟩).elim⟩
theorem Ri{d:D}(h:pL d=true):tt d=true:=by cases d<;>first|rfl|cases h
theorem xv{ks:List Nat}{d:D}{r i off:Nat}(h:d.gk ks=.ptr r i off):d=.ptr r i off:=by
 cases d with
 |all x=>simp only[D.gk,D.kill,D.eh]at h;cases hb:cf x ks<;>rw[hb]at h<;>cases h
 |own x y z=>simp only[D.gk,D.kill,D.eh]at h;cases hb:cf x ks<;>rw[hb]at h<;>cases h
 |ptr x y z=>simp only[D.gk,D.kill,D.eh]at h;cases hb:cf x ks<;>rw[hb]at h<;>cases h;rfl
 |pa x y z u v q=>simp only[D.gk,D.kill,D.eh]at h;cases hb:cf x ks<;>rw[hb]at h<;>cases h
 |c8 x=>simp only[D.gk,D.kill,D.eh]at h;cases hb:cf x ks<;>rw[hb]at h<;>cases h
 |gj f cs=>simp only[D.gk,D.kill,D.eh]at h;cases hb:nQ (oE cs) ks<;>rw[hb]at h<;>cases h
 |dt ds=>simp[D.gk]at h
 |agg ds=>simp[D.gk,D.kill]at h
 |_=>simp[D.gk,D.kill,D.eh]at h
theorem Ka{ops:Array Oper}{i a k:Nat}{o:Oper}(h:lF ops i a=true)(hk:i<=k)(ho:ops[k]?=some o):o.dst≠some a:=by
 intro hd
 have hm:o∈ops.toList.drop i:=by
  have h1:(ops.toList.drop i)[k-i]?=some o:=by
   rw[List.getElem?_drop,show i+(k-i)=k by omega];simpa using ho
  exact fX h1
 have:=List.all_eq_true.1 h o hm
 simp[hd]at this
theorem Zpg{G:List bb}{f:FuncId}(h:(match pf G f with|some _=>true|none=>Z3 G f)=false):pf G f=none/\Z3 G f=false:=by
 cases hg:pf G f with
 |none=>rw[hg]at h;exact⟨rfl,h⟩
 |some k=>rw[hg]at h;cases h
def Kb(ops:Array Oper)(env:List (Nat×D))(i:Nat)(o:Oper)(q:List Nat):Prop:=
 (∀a∈q,lF ops i a=true/\HT (look env a)=true)/\∀t,o.dst=some t->lF ops (i+1) t=true/\HT (look env t)=true
theorem Vh{env:List (Nat×D)}{op:Op}{q:List Nat}(h:pM op=some q):mb env op=some q:=by
 unfold mb;rw[h]
theorem Rj{G:List bb}{ops:Array Oper}{env:List (Nat×D)}{i j:Nat}{x y:Oper}(hx:ops[i]?=some x)(hy:ops[j]?=some y)(h:MT G ops env i j=true):
 (∃t a t' b z r r' ii off mn iT,x.guard=none/\y.guard=none/\x.op=.load t (.tmp a)/\y.op=.store t' (.tmp b) z/\lF ops i a=true/\lF ops j b=true/\look env a=.ptr r ii off/\look env b=.ptr r' mn iT/\r≠r')\/
 (∃q,x.guard=none/\y.guard=none/\mb env x.op=some q/\(∀a∈q,lF ops i a=true)/\((∃t' b z r' mn iT,y.op=.store t' (.tmp b) z/\lF ops j b=true/\look env b=.ptr r' mn iT)\/∃f args da,y.op=.call ⟨.value (.func f),args,da⟩/\(pf G f=none/\Z3 G f=false)))\/
 (∃q,x.guard=none/\pM x.op=some q/\Kb ops env i x q)\/
 (∃t a r ii off args da x0 l,x.guard=none/\y.guard=none/\x.op=.load t (.tmp a)/\lF ops i a=true/\look env a=.ptr r ii off/\y.op=.call ⟨.builtin .append,args,da⟩/\args.toList=.tmp x0::l/\lF ops j x0=true/\J7 (look env x0)=true)\/
 (∃t a r ii off args da td,x.guard=none/\y.guard=none/\x.op=.load t (.tmp a)/\lF ops i a=true/\look env a=.ptr r ii off/\y.op=.call ⟨.builtin .append,args,da⟩/\x.dst=some td/\lF ops (i+1) td=true/\pL (look env td)=true):=by
 unfold MT at h
 simp only[hx,hy]at h
 split at h
 ·rename_i t a t' b z h1 h2 h3 h4
  simp only[aE]at h
  obtain⟨g1,g2,g3⟩:=h
  split at g3
  ·rename_i r ii off r' mn iT e1 e2
   refine .inl ⟨t,a,t',b,z,r,r',ii,off,mn,iT,h1,h2,h3,h4,g1,g2,e1,e2,λe=>?_⟩
   subst e
   simp at g3
  ·rename_i sz es k off r' mn iT e1 e2
   exact .inr (.inl ⟨[a],h1,h2,by rw[h3];simp[mb,pM,cb,e1,mQ],λa' ha=>by simp at ha;subst ha;exact g1,.inl ⟨t',b,z,r',mn,iT,h4,g2,e2⟩⟩)
  ·cases g3
 ·rename_i op t' b z h1 h2 h4 _
  split at h
  ·rename_i q hq
   simp only[aE]at h
   obtain⟨g1,g2,g3⟩:=h
   split at g3
   ·rename_i r' mn iT e2
    exact .inr (.inl ⟨q,h1,h2,hq,λa ha=>List.all_eq_true.1 g1 a ha,.inl ⟨t',b,z,r',mn,iT,h4,g2,e2⟩⟩)
   ·cases g3
  ·cases h
 ·rename_i op f da h1 h2 h4
  split at h
  ·cases h
  ·rename_i IF
   have Jae:=Zpg IF
   split at h
   ·rename_i q hq
    exact .inr (.inl ⟨q,by assumption,by assumption,hq,λa ha=>List.all_eq_true.1 h a ha,.inr ⟨_,_,_,by assumption,Jae⟩⟩)
   ·cases h
 ·rename_i op args da h1 h2 h4 _
  split at h
  ·rename_i q hq
   simp only[aE]at h
   refine .inr (.inr (.inl ⟨q,by assumption,hq,λa ha=>?_,λt ht=>?_⟩))
   ·have:=List.all_eq_true.1 h.1 a ha
    simpa only[aE]using this
   ·have:=h.2
    simp only[ht,aE]at this
    exact this
  ·have Rk:∀{d:D},HT d=true->∃r ii off,d=.ptr r ii off:=fun{d} k=>by
    cases d<;>first|(cases k;done)|exact⟨_,_,_,rfl⟩
   rcases Bool.or_eq_true_iff.1 h with h|h
   ·unfold DA at h
    split at h
    ·rename_i t a x0 l hxo hl
     simp only[aE]at h
     obtain⟨k1,k2,k3,k4⟩:=h
     obtain⟨r,ii,off,hr⟩:=Rk k3
     exact .inr (.inr (.inr (.inl ⟨t,a,r,ii,off,da,h1,x0,l,by assumption,by assumption,hxo,k1,hr,by assumption,hl,k2,k4⟩)))
    ·cases h
   ·unfold DB at h
    split at h
    ·rename_i t a td hxo tY
     simp only[aE]at h
     obtain⟨k1,k2,k3,k4⟩:=h
     obtain⟨r,ii,off,hr⟩:=Rk k2
     exact .inr (.inr (.inr (.inr ⟨t,a,r,ii,off,da,h1,td,by assumption,by assumption,hxo,k1,hr,by assumption,tY,k3,k4⟩)))
    ·cases h
 ·cases h
theorem Zj9{ops:Array Oper}{j:Nat}{y:Oper}(hy:ops[j]?=some y)(h:u9 ops j=true):(∃t,y.guard=none/\y.op=.alloc t)/\∀u,y.dst=some u->∀k o',k≠j->ops[k]?=some o'->o'.dst≠some u:=by
 unfold u9 at h
 simp only[hy]at h
 split at h
 ·rename_i t h1 h2
  refine⟨⟨t,h1,h2⟩,λu hu k o' hk dw hd=>?_⟩
  simp only[hu]at h
  have cq:=(Array.getElem?_eq_some_iff.1 dw).1
  have:=List.all_eq_true.1 h k (List.mem_range.2 cq)
  simp only[dw,aL,hd,aI]at this
  rcases this with this|this
  ·exact hk (bE this)
  ·simp at this
 ·cases h
theorem Q6{G:List bb}{ops:Array Oper}{env:List (Nat×D)}(h:Rl G ops env=true){i j:Nat}{x y:Oper}(V1:i<j)(hx:ops[i]?=some x)(hy:ops[j]?=some y):
 (x.apart ops y=true\/((Region.before ops).getD j 0).testBit i=true)/\((lH G x.op=true/\lH G y.op=true)\/((Region.before ops).getD j 0).testBit i=true\/MT G ops env i j=true\/((∃t,y.guard=none/\y.op=.alloc t)/\∀u,y.dst=some u->∀k o',k≠j->ops[k]?=some o'->o'.dst≠some u)):=by
 have hj:=(Array.getElem?_eq_some_iff.1 hy).1
 have h1:=List.all_eq_true.1 h j (List.mem_range.2 hj)
 simp only[aE]at h1
 have h2:=List.all_eq_true.1 h1.2 i (List.mem_range.2 V1)
 unfold Ag at h2
 simp only[hx,hy,aE,aI]at h2
 exact⟨h2.1,h2.2.elim (λg=>g.elim .inl (λg=>.inr (.inl g))) (λg=>g.elim (λg=>.inr (.inr (.inl g))) (λg=>.inr (.inr (.inr (Zj9 hy g)))))⟩
theorem Zfy{G:List bb}{ops:Array Oper}{env:List (Nat×D)}(h:Rl G ops env=true){j:Nat}{y:Oper}(hy:ops[j]?=some y):∀e∈y.after,Region.binds .any e=true->e.on<j:=by
 have hj:=(Array.getElem?_eq_some_iff.1 hy).1
 have h1:=List.all_eq_true.1 h j (List.mem_range.2 hj)
 simp only[aE,hy]at h1
 intro e he hb
 have:=Array.all_eq_true'.1 h1.1 e he
 simp only[hb,Bool.not_true,Bool.false_or]at this
 exact lE this
theorem qao{P:Program}{G:List bb}{ops:Array Oper}{M:Nat}{c:Ctx}{w:World}{env:List (Nat×D)}{R:Rows}{a:Act}{i:Nat}{o:Oper}{ks:List Nat}{val:D}{R':Rows}(hi:ops[i]?=some o)
 (hm:Mem c w) (hb:c.base<=w.heap.size) (hR:∀r,c.R r=R.getD r none) (eu:∀t∈o.looksAt ops,Rep c w (look env t) (a.tmps.getD t undef)) (hG:nA P G M ops o env R ks val R') {K:Act->World->Prop} {Q:Exit->Act->World->Prop}
 (hK:∀v w' c',(∀k,cf k ks=true->M<=k)->jM ks c w c' w'->(∀r,c'.R r=R'.getD r none)->Rep c' w' val v->K (a.put o.dst v) w'):wpOp P ops Q i K a w:=by
 have hx:∀x∈o.op.operands,Rep c w (cb env x) (a.eval x):=λx hx=>by
  cases x with
  |tmp t=>
   refine eu t ?_
   unfold Oper.looksAt
   exact gQ _ (List.mem_filterMap.2 ⟨.tmp t,by simpa using hx,rfl⟩)
  |const v=>
   simp only[cb,Act.eval]
   cases hv:Gg v with
   |none=>trivial
   |some d=>exact Nj hv c w
  |global g=>trivial
  |func f=>exact Ky f
 have run:pN P G M o (cb env) R ks val R'->o.nk P a w K Q:=λhX=>hX.toK.2 c w a hm hb hR hx K Q λv w' c' h1 h2 h3=>hK v w' c' hX.toK.1 h1 h2 h3
 have skip:ks=[]->val=.dt []->R'=R->K (a.put o.dst undef) w:=λe0 e1 e2=>by
  subst e0;subst e1;subst e2
  exact hK undef w c (λk hk=>by simp[cf]at hk) (lU.toK ⟨hm,jq.refl _ _,Fr.refl _ _,λb hb=>.inl hb,λr row hr v=>.inl ⟨⟨row,hr⟩,v,rfl⟩⟩) hR (Sw _ _)
 unfold wpOp
 simp only[hi]
 unfold nA at hG
 cases hg:o.guard with
 |none=>
  simp only[hg]at hG
  have hw:Region.wanted o (yielded ops a.tmps)=true:=by simp[Region.wanted,hg]
  rw[if_pos hw]
  exact run hG
 |some jw=>
  obtain⟨j,want⟩:=jw
  simp only[hg]at hG
  obtain⟨g,h2,hG⟩:=hG
  have hr:=eu g (by
   unfold Oper.looksAt
   refine gP _ ?_
   simp only[hg,h2];simp)
  rcases hG with⟨b,h3,h4⟩|⟨h3,e0,e1,e2⟩
  rotate_left
  ·rw[h3]at hr
   rw[if_neg (by rw[Sx (o:=o) hg h2 hr];simp)]
   exact skip e0 e1 e2
  rw[h3]at hr
  have hw:=Sy (o:=o) hg h2 hr
  by_cases e:b=want
  ·rw[if_pos e]at h4
   rw[if_pos (by rw[hw];simpa using e)]
   exact run h4
  ·rw[if_neg e]at h4
   rw[if_neg (by rw[hw];simpa using e)]
   exact skip h4.1 h4.2.1 h4.2.2
structure Vi(P:Program)(G:List bb)(N M:Nat)(ops:Array Oper)(s:Nat->St)(ks:Nat->List Nat)(val:Nat->D):Prop extends Chain P G N M ops s ks val where
 mH:∀(i:Nat) (o:Oper),ops[i]?=some o->J6 P G o (s i).env (s i).rows (ks i) (val i) (s (i+1)).rows
theorem Zf0{P:Program}{T:fj}(hT:jF P T){G:List bb}(hG:j5 P G){N M:Nat}{ops:Array Oper}{K:St->Prop}:∀(l:List Oper) (k:Nat) (st:St),ops.toList.drop k=l->mf T G N M ops l st K->
 ∃ (s:Nat->St) (ks:Nat->List Nat) (val:Nat->D),s k=st/\K (s (k+l.length))/\(∀(i:Nat) (o:Oper),k<=i->ops[i]?=some o->nA P G M ops o (s i).env (s i).rows (ks i) (val i) (s (i+1)).rows)/\
  (∀(i:Nat) (o:Oper) (t:Nat),k<=i->ops[i]?=some o->look (s (i+1)).env t=if o.dst=some t then val i else look (sr (ks i) (s i).env) t)/\(∀(i:Nat) (o:Oper) (t:Nat),k<=i->ops[i]?=some o->o.dst=some t->t<N)/\
  (∀(i:Nat) (o:Oper),k<=i->ops[i]?=some o->J6 P G o (s i).env (s i).rows (ks i) (val i) (s (i+1)).rows)
 |[],k,st,hk,h=>by
  have hlen:ops.size<=k:=by
   have:=congrArg List.length hk
   simp at this;omega
  have no:∀(i:Nat) (o:Oper),k<=i->ops[i]?=some o->False:=λi o hi ho=>by
   have:=(Array.getElem?_eq_some_iff.1 ho).1;omega
  exact⟨λ_=>st,λ_=>[],λ_=>.dead,rfl,h,λi o hi ho=>(no i o hi ho).elim,λi o t hi ho=>(no i o hi ho).elim,λi o t hi ho=>(no i o hi ho).elim,λi o hi ho=>(no i o hi ho).elim⟩
 |o ::l,k,st,hk,h=>by
  have cq:k<ops.toList.length:=by
   by_cases cq:k<ops.toList.length
   ·exact cq
   ·rw[List.drop_eq_nil_of_le (by omega)]at hk;cases hk
  rw[List.drop_eq_getElem_cons cq]at hk
  have ho:ops[k]?=some o:=by
   have:=(List.cons.inj hk).1
   rw[<-this]
   simp at cq
   simp[cq]
  obtain⟨kk,v,R',iO,h1,h2,h3,h4,h5⟩:=Zp1 hT hG h
  obtain⟨s,ks,val,g1,g2,g3,g4,g5,g6⟩:=Zf0 hT hG l (k+1) _ (List.cons.inj hk).2 h4
  refine⟨λi=>if i=k then st else s i,λi=>if i=k then kk else ks i,λi=>if i=k then v else val i,by simp,?_,λi p hi hp=>?_,λi p t hi hp=>?_,λi p t hi hp hd=>?_,λi p hi hp=>?_⟩
  ·simp only[List.length_cons]
   rw[if_neg (by omega),show k+(l.length+1)=k+1+l.length by omega]
   exact g2
  ·by_cases e:i=k
   ·subst e
    rw[ho]at hp;cases hp
    simp only[if_true,show¬i+1=i by omega,if_false,g1]
    exact h3
   ·simp only[if_neg e,if_neg (show¬i+1=k by omega)]
    exact g3 i p (by omega) hp
  ·by_cases e:i=k
   ·subst e
    rw[ho]at hp;cases hp
    simp only[if_true,show¬i+1=i by omega,if_false,g1]
    cases tY:o.dst with
    |none=>simp[ss,h1]
    |some u=>simp only[ss,Bp,Option.some.injEq,h1]
   ·simp only[if_neg e,if_neg (show¬i+1=k by omega)]
    exact g4 i p t (by omega) hp
  ·by_cases e:i=k
   ·subst e
    rw[ho]at hp;cases hp
    exact h2 t hd
   ·exact g5 i p t (by omega) hp hd
  ·by_cases e:i=k
   ·subst e
    rw[ho]at hp;cases hp
    simp only[if_true,show¬i+1=i by omega,if_false,g1]
    exact h5
   ·simp only[if_neg e,if_neg (show¬i+1=k by omega)]
    exact g6 i p (by omega) hp
section
variable {P:Program} {G:List bb} {N M:Nat} {ops:Array Oper} {s:Nat->St} {ks:Nat->List Nat} {val:Nat->D} (hc:Vi P G N M ops s ks val)
include hc
theorem EG{i a r ii off:Nat}(hn:lF ops i a=true)(h:look (s ops.size).env a=.ptr r ii off):∀{k:Nat},i<=k->k<=ops.size->look (s k).env a=.ptr r ii off:=by
 intro k oc hk
 obtain⟨n,QX⟩:∃n,ops.size=k+n:=⟨ops.size-k,by omega⟩
 have:∀n k,i<=k->k+n<=ops.size->look (s (k+n)).env a=.ptr r ii off->look (s k).env a=.ptr r ii off:=by
  intro n
  induction n with
  |zero=>intro k _ _ h;exact h
  |succ n ih=>
   intro k h1 h2 h3
   have ho:ops[k]?=some ops[k]:=aJ (by omega)
   have h4:=ih (k+1) (by omega) (by omega) (by rw[show k+1+n=k+(n+1) by omega];exact h3)
   rw[hc.env k _ a ho,if_neg (Ka hn h1 ho),Ca]at h4
   exact xv h4
 exact this n k oc (by omega) (by rw[<-QX];exact h)
theorem EH{i a:Nat}(hn:lF ops i a=true)(h:tt (look (s ops.size).env a)=true):∀{k:Nat},i<=k->k<=ops.size->look (s k).env a=look (s ops.size).env a:=by
 intro k oc hk
 obtain⟨n,QX⟩:∃n,ops.size=k+n:=⟨ops.size-k,by omega⟩
 have:∀n k,i<=k->k+n<=ops.size->∀p,tt p=true->look (s (k+n)).env a=p->look (s k).env a=p:=by
  intro n
  induction n with
  |zero=>intro k _ _ p _ h;exact h
  |succ n ih=>
   intro k h1 h2 p hp h3
   have ho:ops[k]?=some ops[k]:=aJ (by omega)
   have h4:=ih (k+1) (by omega) (by omega) p hp (by rw[show k+1+n=k+(n+1) by omega];exact h3)
   rw[hc.env k _ a ho,if_neg (Ka hn h1 ho),Ca]at h4
   exact Zka hp h4
 exact this n k oc (by omega) _ h (by rw[<-QX])
theorem Zn4{i:Nat}{op:Op}{q:List Nat}(h:mb (s ops.size).env op=some q)(hq:∀a∈q,lF ops i a=true){k:Nat}(h1:i<=k)(h2:k<=ops.size):mb (s k).env op=some q:=
 Zpm h λa ha hs=>EH hc (hq a ha) hs h1 h2
theorem Qw7{dh:Nat->Bool}{c:Nat}{t:Nat}:∀{n:Nat},(∀i o,i<n->ops[c+i]?=some o->o.dst=some t->dh (c+i)=false)->jj ops s val dh c n t=look (s c).env t
 |0,_=>rfl
 |n + 1,h=>by
  simp only[jj]
  rw[if_neg]
  ·exact Qw7 (λi o hi=>h i o (by omega))
  ·rintro⟨g1,g2⟩
   cases hk:ops[c+n]? with
   |none=>rw[hk]at g2;cases g2
   |some o=>
    rw[hk]at g2
    rw[h n o (by omega) hk g2]at g1;cases g1
theorem Zia{dh:Nat->Bool}{c d:Nat}{t:Nat}(hq:∀(i:Nat) (o:Oper),c<=i->i<d->ops[i]?=some o->lH G o.op=true)(hd:d<=ops.size):∀{n:Nat},c+n<=d->(∀i o,i<n->ops[c+i]?=some o->o.dst=some t->dh (c+i)=true)->jj ops s val dh c n t=look (s (c+n)).env t
 |0,_,_=>rfl
 |n +1,hn,hl=>by
  have ho:ops[c+n]?=some ops[c+n]:=aJ (by omega)
  simp only[jj,ho,aL]
  rw[show c+(n+1)=(c+n)+1 by omega,hc.toChain.ER ho (hq _ _ (by omega) (by omega) ho) t]
  by_cases tq:ops[c+n].dst=some t
  ·rw[if_pos ⟨hl n _ (by omega) ho tq,tq⟩,if_pos tq]
  ·rw[if_neg (λg=>tq g.2),if_neg tq]
   exact Zia hq hd (by omega) (λi o hi=>hl i o (by omega))
theorem Z8s{dh:Nat->Bool}{c d:Nat}(hq:∀(i:Nat) (o:Oper),c<=i->i<d->ops[i]?=some o->lH G o.op=true)(hd:d<=ops.size):∀{n:Nat},c+n<=d->(∀i,i<n->dh (c+i)=true\/(s (c+i+1)).rows=(s (c+i)).rows)->∀r,kI s dh c n r=(s (c+n)).rows.getD r none
 |0,_,_,r=>rfl
 |n + 1,hn,hl,r=>by
  simp only[kI]
  rw[show c+(n+1)=c+n+1 by omega]
  have hlen:=Kw hc.toChain hq hd (show c<=c+n by omega) (show c+n<=c+n+1 by omega) (by omega)
  have ih:=Z8s hq hd (n:=n) (by omega) (λi hi=>hl i (by omega)) r
  rcases hl n (by omega)with h|h
  ·simp only[h,true_and]
   split
   ·rfl
   ·rw[ih]
    by_cases h2:r<(s (c+n)).rows.length
    ·exact(Kx hc.toChain hq hd (by omega) (by omega) (by omega) h2).symm
    ·simp only[aK]
     rw[aM (by omega),aM (by omega)]
  ·rw[if_neg (by rw[h];omega),ih,h]
theorem Zfp{dh:Nat->Bool}{c d:Nat}(hq:∀(i:Nat) (o:Oper),c<=i->i<d->ops[i]?=some o->lH G o.op=true)(hd:d<=ops.size){r:Nat}(hr:r<(s c).rows.length):∀{n:Nat},c+n<=d->kI s dh c n r=(s c).rows.getD r none
 |0,_=>rfl
 |n+1,hn=>by
  simp only[kI]
  have hlen:=Kw hc.toChain hq hd (show c<=c by omega) (show c<=c+n by omega) (by omega)
  rw[if_neg (by omega)]
  exact Zfp hq hd hr (by omega)
end
structure tu(w0:World)(cx:Ctx)(w:World)(b:Nat)(arr:Array Value)(ty:TypeId):Prop where
 jG:w0.heap.size<=b
 lt:b<w.heap.size
 here:w.heap[b]?=some (.cells arr ty (0,0))
 fk:¬cx.I b
 row:∀r row,cx.R r=some row->¬cx.V r->cx.ρ r≠b
theorem tu.cy{w0 w w':World}{c c':Ctx}{ks:List Nat}{b:Nat}{arr:Array Value}{ty:TypeId}(h:tu w0 c w b arr ty)(n:jM ks c w c' w'):tu w0 c' w' b arr ty:=by
 refine⟨h.jG,bI h.lt n.fr.size,(n.fr.heap b h.lt fun⟨r,x,h1,h2,h3⟩=>h.row r x h1 h2 h3).trans h.here,λhb=>?_,λr row hr hv e=>?_⟩
 ·rcases n.fk b hb with g|⟨s,x,_,g1,g2,g3⟩|g
  ·exact h.fk g
  ·exact h.row s x g1 g2 g3
  ·have:=h.lt;omega
 ·rcases n.oj r row hr hv with⟨⟨x,g1⟩,g2,g3⟩|⟨s,x,_,g1,g2,g3⟩|g
  ·exact h.row r x g1 g2 (by rw[<-g3];exact e)
  ·exact h.row s x g1 g2 (by rw[<-g3];exact e)
  ·have:=h.lt;omega
theorem zv{a:Act}{o:Oper}{v:Value}{u:Nat}(h:o.dst≠some u):(a.put o.dst v).tmps.getD u undef=a.tmps.getD u undef:=by
 cases ho:o.dst with
 |none=>simp[Act.put]
 |some x=>
  have gl:x≠u:=λe=>h (by rw[ho,e])
  simp[Act.put,aQ gl]
theorem qQ{a:Act}{dst:Option Tmp}{v:Value}{u:Nat}(h:dst=some u)(cq:u<a.tmps.size):(a.put dst v).tmps.getD u undef=v:=by
 subst h
 simp[Act.put,aP,cq]
def MU(P:Program)(ops:Array Oper)(s:Nat->St)(val:Nat->D)(w0:World)(cx:Ctx)(w:World)(a:Act)(i b:Nat):Prop:=
 ∃ o t row arr,ops[i]?=some o/\o.guard=none/\o.op=.alloc t/\Vg P o row arr/\val i=.ptr (s i).rows.length 0 0/\(s (i+1)).rows=(s i).rows++[some row]/\tu w0 cx w b arr row.ty/\
  (∀u,o.dst=some u->a.tmps.getD u undef=.pointer (some ⟨b,0,none⟩))/\∀u,o.dst=some u->∀k o',k≠i->ops[k]?=some o'->o'.dst≠some u
theorem MU.cy{P:Program}{ops:Array Oper}{s:Nat->St}{val:Nat->D}{w0 w w':World}{c c':Ctx}{ks:List Nat}{a:Act}{i k b:Nat}{o:Oper}{v:Value}(h:MU P ops s val w0 c w a k b)(n:jM ks c w c' w')(oc:i≠k)(ho:ops[i]?=some o):MU P ops s val w0 c' w' (a.put o.dst v) k b:=by
 obtain⟨o',t,row,arr,g1,g2,g3,g4,g5,g6,g7,g8,g9⟩:=h
 exact⟨o',t,row,arr,g1,g2,g3,g4,g5,g6,g7.cy n,λu hu=>by rw[zv (g9 u hu i o oc ho)];exact g8 u hu,g9⟩
theorem Qpo{c:Ctx}{w:World}(hm:Mem c w)(o:Obj):jq c w c (w.alloc o):=
 ⟨rfl,aO _,λb hb=>⟨hb,AD w o b (hm.fk b hb).1⟩,λr x hr=>⟨x,hr,rfl,rfl,rfl,rfl,rfl,Iff.rfl,λnv arr ha=>⟨arr,by rw[AD w o _ (hm.lt hr nv)];exact ha,rfl⟩⟩⟩
theorem Qyh(w:World)(o:Obj):(w.alloc o).heap.size=w.heap.size+1:=by show(w.heap.push o).size=_;simp
theorem Zps{c:Ctx}{w:World}(hm:Mem c w)(o:Obj):Mem c (w.alloc o):=
 ⟨λr row hr=>ue (Qpo hm o) rfl Iff.rfl (λnv=>AD w o _ (hm.lt hr nv)) (hm.row r row hr),hm.inj,(λb hb=>⟨by have:=(hm.fk b hb).1;rw[Qyh];omega,(hm.fk b hb).2⟩),by have:=hm.top;rw[Qyh];omega,hm.kX.mono (Qpo hm o).I⟩
theorem Zfu{c:Ctx}{w:World}{k:Nat}(hk:c.R k=none)(row:Row)(b:Nat):jq c w (c.add k row b) w:=by
 refine⟨rfl,aO _,λb hb=>⟨hb,rfl⟩,λr x hr=>?_⟩
 have gl:r≠k:=λe=>by rw[e,hk]at hr;cases hr
 exact⟨x,by simp[Ctx.add,gl,hr],rfl,rfl,rfl,rfl,by simp[Ctx.add,gl],by simp[Ctx.add,gl],λnv arr ha=>⟨arr,ha,rfl⟩⟩
theorem zao{P:Program}{o:Oper}{c:Ctx}{w w0:World}(hm:Mem c w){k:Nat}(hk:c.R k=none){row:Row}{b:Nat}{arr:Array Value}(hA:Vg P o row arr)(hl:tu w0 c w b arr row.ty):Mem (c.add k row b) w:=by
 have hg:=Zfu (w:=w) hk row b
 have jG:∀r x,r≠k->(c.add k row b).R r=some x->c.R r=some x/\(c.add k row b).ρ r=c.ρ r/\((c.add k row b).V r↔c.V r):=λr x e h=>⟨by simpa[Ctx.add,e]using h,by simp[Ctx.add,e],by simp[Ctx.add,e]⟩
 refine⟨λr x hr=>?_,λr s x y hr hs v1 v2 he=>?_,λb' hb=>⟨(hm.fk b' hb).1,λr x hr v=>?_⟩,hm.top,hm.kX⟩
 ·by_cases e:r=k
  ·subst e
   simp only[Ctx.add,if_true,Option.some.injEq]at hr
   subst hr
   obtain⟨e,h1,h2,h3,h4⟩:=hA.cells
   refine .inr ⟨by simp[Ctx.add],arr,by simp only[Ctx.add,if_true];exact hl.here,hA.sz,?_⟩
   rw[if_pos hA.box]
   exact⟨e,h1,h2,h3,h4 _ _⟩
  ·obtain⟨g1,g2,g3⟩:=jG r x e hr
   exact ue hg g2 g3 (λ_=>rfl) (hm.row r x g1)
 ·by_cases e1:r=k<;>by_cases e2:s=k
  ·rw[e1,e2]
  ·obtain⟨g1,g2,g3⟩:=jG s y e2 hs
   exfalso
   refine hl.row s y g1 (λe=>v2 (g3.2 e)) ?_
   rw[<-g2,<-he,e1];simp[Ctx.add]
  ·obtain⟨g1,g2,g3⟩:=jG r x e1 hr
   exfalso
   refine hl.row r x g1 (λe=>v1 (g3.2 e)) ?_
   rw[<-g2,he,e2];simp[Ctx.add]
  ·obtain⟨g1,g2,g3⟩:=jG r x e1 hr
   obtain⟨k1,k2,k3⟩:=jG s y e2 hs
   exact hm.inj r s x y g1 k1 (λe=>v1 (g3.2 e)) (λe=>v2 (k3.2 e)) (by rw[<-g2,<-k2];exact he)
 ·by_cases e:r=k
  ·subst e
   simp only[Ctx.add,if_true]
   intro e;subst e
   exact hl.fk hb
  ·obtain⟨g1,g2,g3⟩:=jG r x e hr
   rw[g2];exact(hm.fk b' hb).2 r x g1 (λe=>v (g3.2 e))
def Rm(ops:Array Oper)(env:List (Nat×D))(i:Nat)(o:Oper):Prop:=∃td,o.dst=some td/\lF ops (i+1) td=true/\pL (look env td)=true
def Rn(ops:Array Oper)(s:Nat->St)(ks:Nat->List Nat)(i c:Nat):Prop:=
 (∃o t a r ii off row aq,ops[i]?=some o/\o.guard=none/\o.op=.load t (.tmp a)/\lF ops i a=true/\look (s ops.size).env a=.ptr r ii off/\(s i).rows.getD r none=some row/\(s c).rows.getD r none=some aq/\((aq=row/\∀k,i<k->k<c->ks k=[])\/(Rm ops (s ops.size).env i o/\∃L:List (List Nat),aq=L.foldl (λr k=>Row.kill k r) row/\∀kk∈L,∃j,i<j/\j<c/\kk=ks j)))\/
 (∃o q,ops[i]?=some o/\o.guard=none/\mb (s ops.size).env o.op=some q/\(∀a∈q,lF ops i a=true)/\((∀k,i<k->k<c->ks k=[])\/Kb ops (s ops.size).env i o q))
structure Inv2(P:Program)(G:List bb)(N M:Nat)(ops:Array Oper)(s:Nat->St)(ks:Nat->List Nat)(val:Nat->D)(c0:Ctx)(w0:World)(dh:Nat->Bool)(a:Act)(w:World)(c d:Nat):Prop where
 cd:c<=d
 dn:d<=ops.size
 pre:∀i,i<c->dh i=true\/Rn ops s ks i c
 quiet:∀(i:Nat) (o:Oper),c<=i->i<d->ops[i]?=some o->lH G o.op=true
 wr:∀(o:Oper),ops[d]?=some o->lH G o.op=false
 closed:∀j,dh j=true->∀(o:Oper),ops[j]?=some o->∀e∈o.after,Region.binds .any e=true->dh e.on=true
 size:N<=a.tmps.size
 defers:mg w0.heap.size w a.defers
 gb:c0.base<=w0.heap.size
 gq:∀r row,c0.R r=some row->r<M
 ctx:∃(cx:Ctx) (B:Nat->Nat),Mem cx w/\(∀r,cx.R r=kI s dh c (d-c) r)/\(∀t,(∀k o,k<c->dh k=false->ops[k]?=some o->o.dst≠some t)->(∀k o,d<=k->dh k=true->ops[k]?=some o->o.dst≠some t)->Rep cx w (jj ops s val dh c (d-c) t) (a.tmps.getD t undef))/\An c0 w0 cx w/\
  (∀i,d<=i->dh i=true->MU P ops s val w0 cx w a i (B i))/\(∀i j,d<=i->d<=j->dh i=true->dh j=true->B i=B j->i=j)
theorem Vj{c':Ctx}{w':World}{a:Act}{o:Oper}{t:Nat}{d:D}{v:Value}{N:Nat}(hs:N<=a.tmps.size)(hd:∀u,o.dst=some u->u<N)(h1:o.dst=some t->Rep c' w' d v)(h2:o.dst≠some t->Rep c' w' d (a.tmps.getD t undef)):Rep c' w' d ((a.put o.dst v).tmps.getD t undef):=by
 cases ho:o.dst with
 |none=>simpa[Act.put]using h2 (by rw[ho];simp)
 |some u=>
  by_cases e:u=t
  ·subst e
   have hu:u<a.tmps.size:=bI (hd u ho) hs
   simpa[Act.put,aP,hu]using h1 ho
  ·have:=h2 (by rw[ho];intro h;exact e (Option.some.inj h))
   simpa[Act.put,aQ e]using this
theorem Ro{P:Program}{G:List bb}{N M:Nat}{ops:Array Oper}{s:Nat->St}{ks:Nat->List Nat}{val:Nat->D}(hc:Vi P G N M ops s ks val){c0:Ctx}{w0 w:World}{dh:Nat->Bool}{a:Act}{c d:Nat}
 (hq:∀(i:Nat) (o:Oper),c<=i->i<d->ops[i]?=some o->lH G o.op=true) (hd:d<=ops.size)
 (h:∃(cx:Ctx) (B:Nat->Nat),Mem cx w/\(∀r,cx.R r=(s c).rows.getD r none)/\(∀t,(∀k o,k<c->dh k=false->ops[k]?=some o->o.dst≠some t)->(∀k o,c<=k->dh k=true->ops[k]?=some o->o.dst≠some t)->Rep cx w (look (s c).env t) (a.tmps.getD t undef))/\An c0 w0 cx w/\
  (∀i,c<=i->dh i=true->MU P ops s val w0 cx w a i (B i))/\(∀i j,c<=i->c<=j->dh i=true->dh j=true->B i=B j->i=j)):
 ∀ n,c+n<=d->∃(cx:Ctx) (B:Nat->Nat),Mem cx w/\(∀r,cx.R r=kI s dh c n r)/\(∀t,(∀k o,k<c->dh k=false->ops[k]?=some o->o.dst≠some t)->(∀k o,c+n<=k->dh k=true->ops[k]?=some o->o.dst≠some t)->Rep cx w (jj ops s val dh c n t) (a.tmps.getD t undef))/\An c0 w0 cx w/\
  (∀i,c+n<=i->dh i=true->MU P ops s val w0 cx w a i (B i))/\(∀i j,c+n<=i->c+n<=j->dh i=true->dh j=true->B i=B j->i=j):=by
 have hlen:∀k l,c<=k->k<=l->l<=d->(s k).rows.length<=(s l).rows.length:=λk l h1 h2 h3=>Kw hc.toChain hq hd h1 h2 h3
 have Rp:∀n,c+n<=d->∀r,(s (c+n)).rows.length<=r->kI s dh c n r=none:=by
  intro n
  induction n with
  |zero=>intro _ r hr;simp only[kI];simp only[bG]at hr;rw[aK,aM hr];rfl
  |succ n ih=>
   intro hn r hr
   simp only[kI]
   have:=hlen (c+n) (c+n+1) (by omega) (by omega) (by omega)
   rw[show c+(n+1)=c+n+1 by omega]at hr
   rw[if_neg (by omega)]
   exact ih (by omega) r (by omega)
 intro n
 induction n with
 |zero=>intro _;simpa only[kI,jj,bG]using h
 |succ n ih=>
  intro hn
  obtain⟨cx,B,hm,hR,hE,ob,nS,oI⟩:=ih (by omega)
  cases hl:dh (c+n)with
  |false=>
   refine⟨cx,B,hm,λr=>?_,λt ht he=>?_,ob,λi hi Hr=>nS i (by omega) Hr,λi j hi hj=>oI i j (by omega) (by omega)⟩
   ·simp only[kI,hl,aN,false_and,if_false];exact hR r
   ·simp only[jj,hl,aN,false_and,if_false]
    refine hE t ht λk o hk oL=>he k o ?_ oL
    by_cases e:k=c+n
    ·rw[e,hl]at oL;cases oL
    ·omega
  |true=>
   obtain⟨o,ty,row,arr,g1,g2,g3,g4,g5,g6,g7,g8,g9⟩:=nS (c+n) (aO _) hl
   have hk:cx.R (s (c+n)).rows.length=none:=by rw[hR];exact Rp n (by omega) _ (aO _)
   have hg:=Zfu (w:=w) hk row (B (c+n))
   refine⟨cx.add (s (c+n)).rows.length row (B (c+n)),B,zao hm hk g4 g7,λr=>?_,λt ht he=>?_,⟨ob.cj.trans hg,ob.fr,ob.fk,λr x hr hv=>?_,ob.xb⟩,λi hi Hr=>?_,λi j hi hj=>oI i j (by omega) (by omega)⟩
   ·simp only[kI,hl,true_and,g6,lA,List.length_singleton]
    by_cases e:r=(s (c+n)).rows.length
    ·subst e
     rw[if_pos ⟨aO _,Nat.lt_succ_self _⟩]
     simp[Ctx.add,aK]
    ·rw[if_neg (by omega)]
     simp only[Ctx.add,if_neg e];exact hR r
   ·simp only[jj,hl,true_and,g1,aL]
    split
    ·rename_i tY
     rw[g8 t tY,g5]
     obtain⟨e,q1,_⟩:=g4.cells
     exact⟨row,(Ctx.jg _ _ _ _).1,by simp[Ctx.add],by rw[q1];simp[ai.l],by simp[(Ctx.jg _ _ _ _).2]⟩
    ·rename_i tY
     refine Ao hg (hE t ht λk o' EP oL dw=>?_)
     by_cases e:k=c+n
     ·subst e;rw[g1]at dw;cases dw;exact tY
     ·exact he k o' (by omega) oL dw
   ·by_cases e:r=(s (c+n)).rows.length
    ·right;right
     rw[e];simp only[Ctx.add,if_true];exact g7.jG
    ·have nB:cx.R r=some x:=by simpa[Ctx.add,e]using hr
     have MH:¬cx.V r:=by simpa[Ctx.add,e]using hv
     have:=ob.oj r x nB MH
     simpa only[Ctx.add,if_neg e]using this
   ·obtain⟨o',t',aq,iS,f1,f2,f3,f4,f5,f6,f7,f8,f9⟩:=nS i (by omega) Hr
    refine⟨o',t',aq,iS,f1,f2,f3,f4,f5,f6,⟨f7.jG,f7.lt,f7.here,f7.fk,λr x hr hv e'=>?_⟩,f8,f9⟩
    by_cases e:r=(s (c+n)).rows.length
    ·rw[e]at e'
     simp only[Ctx.add,if_true]at e'
     have:=oI (c+n) i (aO _) (by omega) hl Hr e'
     omega
    ·exact f7.row r x (by simpa[Ctx.add,e]using hr) (by simpa[Ctx.add,e]using hv) (by simpa only[Ctx.add,if_neg e]using e')
section
variable {P:Program} {G:List bb} {N M:Nat} {ops:Array Oper} {s:Nat->St} {ks:Nat->List Nat} {val:Nat->D} (hc:Vi P G N M ops s ks val) (mJ:Rl G ops (s ops.size).env=true)
include hc mJ
theorem yv {c0 :Ctx}{w0:World}{dh gg:Nat->Bool}{a:Act}{w:World}{c d i:Nat}{o:Oper}(hI:Inv2 P G N M ops s ks val c0 w0 dh a w c d)(ho:ops[i]? =some o)(h0:dh i=false)(h1:gg i=true)(h2: ∀k,k≠i->gg k=dh k)
    (Ng: ∀e∈o.after,Region.binds .any e=true->dh e.on=true) {K:Act->World->Prop} {Q:Exit->Act->World->Prop} (hK: ∀a' w' c' d',Inv2 P G N M ops s ks val c0 w0 gg a' w' c' d'->K a' w'):wpOp P ops Q i K a w:=by
  have cq:=(Array.getElem?_eq_some_iff.1 ho).1
  have rj: ∀k,((Region.before ops).getD i 0).testBit k=true->dh k=true:=λk hk=>
    Sn (listed:=λk=>dh k=true) hI.closed (λo' jd=>by rw[ho]at jd;cases jd;exact Ng) hk
  have oa: ∀j k,dh j=true->((Region.before ops).getD j 0).testBit k=true->dh k=true:=λj k hj hk=>
    Sn (listed:=λk=>dh k=true) hI.closed (hI.closed j hj) hk
  have tZ: ∀j,gg j=true-> ∀(o:Oper),ops[j]? =some o-> ∀e∈o.after,Region.binds .any e=true->gg e.on=true:=by
    intro j hj o' jd e he hb
    have gl:dh e.on=true:=by
      by_cases e':j=i
      . subst e';rw[ho]at jd;cases jd;exact Ng e he hb
      . rw[h2 j e']at hj;exact hI.closed j hj o' jd e he hb
    rw[h2 e.on (λe'=>by rw[e',h0]at gl;cases gl)]
    exact gl
  have DT: ∀{x:Oper} {t:TypeId} {y:Operand},x.op= .load t y->lH G x.op=true:=λh=>by rw[h];rfl
  have hpu: ∀{x:Oper} {env:List (Nat×D)} {q:List Nat},mb env x.op=some q->lH G x.op=true:=λh=>by
    unfold lH;rw[(Z3x (G:=G) h).1];rfl
  have Hq: ∀{x:Oper} {t:TypeId},x.op= .alloc t->lH G x.op=true:=λh=>by rw[h];rfl
  obtain⟨cx,B,hm,hR,hE,ob,nS,oI⟩:=hI.ctx
  have FW:dh d=false:=by
    cases hl:dh d with
    |false=>rfl
    | true=>
      obtain⟨o',t,_,_,g1,_,g3,_⟩:=nS d (aO _) hl
      have:=hI.wr _ g1
      rw[Hq g3]at this;cases this
  have hid:i<=d\/(d<i/\(∃t,o.guard=none/\o.op= .alloc t)/\ ∀u,o.dst=some u-> ∀k o',k≠i->ops[k]? =some o'->o'.dst≠some u):=by
    by_cases h:i<=d
    . exact .inl h
    . right
      have BM:ops[d]? =some ops[d]:=aJ (by omega)
      have:=(Q6 mJ (show d<i by omega) BM ho).2
      rcases this with⟨hq,_⟩|hb|hb|hb
      . rw[hI.wr _ BM]at hq;cases hq
      . have:=rj d hb
        rw[FW]at this;cases this
      . rcases Rj BM ho hb with⟨t,b,t',b',z,r,r',ii,off,mn,iT,g1,g2,g3,_⟩|⟨q,g1,g2,g3,_⟩|⟨q,g1,g3,_⟩|⟨_,_,_,_,_,_,_,_,_,g1,g2,g3,_⟩|⟨_,_,_,_,_,_,_,_,g1,g2,g3,_⟩
        . have:=DT g3
          rw[hI.wr _ BM]at this;cases this
        . have:=hpu g3
          rw[hI.wr _ BM]at this;cases this
        . have:=hpu (Vh (env:=[]) g3)
          rw[hI.wr _ BM]at this;cases this
        . have:=DT g3
          rw[hI.wr _ BM]at this;cases this
        . have:=DT g3
          rw[hI.wr _ BM]at this;cases this
      . exact⟨by omega,hb⟩
  have We:=hI.cd
  have Io:=hI.dn
  have jo:cx.base<=w.heap.size:=by rw[ob.cj.base];exact Nat.le_trans hI.gb ob.fr.size
  have seen: ∀k o' t,k<i->ops[k]? =some o'->o'.dst=some t->t∈o.looksAt ops->dh k=true:=by
    intro k o' t hk jd hd ht
    rcases(Q6 mJ hk jd ho).1 with ua|hb
    . exact((Gf ua).2.1 hd ht).elim
    . exact rj _ hb
  have DC: ∀k o' t,d<=k->dh k=true->ops[k]? =some o'->t∈o.looksAt ops->i<=d->o'.dst≠some t:=by
    intro k o' t hk hl jd ht hid hd
    have oc:i<k:=by
      by_cases e:k=i
      . rw[e,h0]at hl;cases hl
      . omega
    rcases(Q6 mJ oc ho jd).1 with ua|hb
    . exact(Gf ua).2.2 hd ht
    . have:=oa _ _ hl hb
      rw[h0]at this;cases this
  rcases hid with hid|⟨hdi,⟨t0,hg0,ho0⟩,KC⟩
  rotate_left
  ·
    obtain⟨hks,row,arr,hA,hv,c6⟩:=(hc.mH i o ho).al t0 hg0 ho0
    unfold wpOp
    simp only[ho]
    have hw:Region.wanted o (yielded ops a.tmps)=true:=by simp [Region.wanted,hg0]
    rw[if_pos hw]
    refine Gm (hA.run a.eval w) ?_
    have hmn:=Zps hm (.cells arr row.ty)
    have wI:=Qpo hm (.cells arr row.ty)
    have hn:jM [] cx w cx (w.alloc (.cells arr row.ty)):=lU.toK ⟨hmn,wI,Fr.alloc _ w _,λb hb=> .inl hb,λr row hr v=> .inl ⟨⟨row,hr⟩,v,rfl⟩⟩
    refine hK _ _ c d ⟨hI.cd,hI.dn,λk hk=>by rw[h2 k (by omega)];exact hI.pre k hk,hI.quiet,hI.wr,tZ,?_,?_,hI.gb,hI.gq,cx,λk=>if k=i then w.heap.size else B k,hmn,λr=> ?_,λt ht he=> ?_,ob.step (ks:=[]) (λk hk=>by simp [cf]at hk) hI.gq hn,λk hdk hl=> ?_,λk j hk hj oL AW e=> ?_⟩
    . cases hd:o.dst<;>simp [Act.put]<;>exact hI.size
    . first|exact mg.put (hI.defers.step hm hn.fr)|exact mg.put (hI.defers.step hm hn.toW.fr)
    . rw[hR,Su (λk hk=>h2 _ (by omega))]
    . rw[Ss (λk hk=>h2 _ (by omega))]
      refine Vj hI.size (λu=>hc.dst i o u ho) (λhd=>(he i o (by omega) h1 ho hd).elim) (λhd=> ?_)
      exact Ao wI (hE t (λk o' hk hl dw=>ht k o' hk (by rw[h2 k (by omega)];exact hl) dw) (λk o' hk hl dw=>he k o' hk (by rw[h2 k (λe'=>by rw[e',h0]at hl;cases hl)];exact hl) dw))
    . by_cases e:k=i
      . subst e
        simp only[if_true]
        exact⟨o,t0,row,arr,ho,hg0,ho0,hA,hv,c6,⟨ob.fr.size,by rw[Qyh];omega,UJ w _,λhb=>by have:=(hm.fk _ hb).1;omega,λr aq hr MH e=>by have:=hm.lt hr MH;omega⟩,λu hu=>qQ hu (bI (hc.dst k o u ho hu) hI.size),KC⟩
      . simp only[if_neg e]
        rw[h2 k e]at hl
        exact(nS k hdk hl).cy hn (Ne.symm e) ho
    . have key: ∀k,d<=k->gg k=true->k≠i->B k<w.heap.size:=λk hk oL e=>by
        rw[h2 k e]at oL
        obtain⟨_,_,_,_,_,_,_,_,_,_,g7,_⟩:=nS k hk oL
        exact g7.lt
      by_cases e1:k=i<;>by_cases e2:j=i
      . rw[e1,e2]
      . simp only[if_pos e1,if_neg e2]at e
        have:=key j hj AW e2;omega
      . simp only[if_neg e1,if_pos e2]at e
        have:=key k hk oL e1;omega
      . simp only[if_neg e1,if_neg e2]at e
        exact oI k j hk hj (by rw[<-h2 k e1];exact oL) (by rw[<-h2 j e2];exact AW) e
  by_cases pO:c<=i
  . by_cases e:i=d
    ·
      subst e
      have iV: ∀k o',c<=k->k<i->ops[k]? =some o'->dh k=true\/MT G ops (s ops.size).env k i=true:=λk o' od rR dw=>by
        rcases(Q6 mJ rR dw ho).2 with⟨_,hq⟩|hb|hb|⟨⟨t4,_,g4⟩,_⟩
        . rw[hI.wr _ ho]at hq;cases hq
        . exact .inl (rj _ hb)
        . exact .inr hb
        . have:=hI.wr _ ho
          rw[Hq g4]at this;cases this
      have hnr: ∀k o',c<=k->k<i->ops[k]? =some o'->MT G ops (s ops.size).env k i=true->(s (k+1)).rows=(s k).rows:=λk o' od rR dw hb=>by
        rcases Rj dw ho hb with⟨t,b,t',b',z,r,r',ii,off,mn,iT,g1,g2,g3,g4,g5,g6,g7,g8,g9⟩|⟨q,g1,g2,g3,g4,_⟩|⟨q,g1,g3,_⟩|⟨t,b,r,ii,off,_,_,_,_,g1,g2,g3,g5,g7,_⟩|⟨t,b,r,ii,off,_,_,_,g1,g2,g3,g5,g7,_⟩
        . exact((hc.mH k o' dw).ld t b r ii off g1 g3 (EG hc g5 g7 (aO _) (by omega))).2.1
        . exact((hc.mH k o' dw).pu q g1 (Zn4 hc g3 g4 (aO _) (by omega))).2.1
        . exact((hc.mH k o' dw).pu q g1 (Vh g3)).2.1
        . exact((hc.mH k o' dw).ld t b r ii off g1 g3 (EG hc g5 g7 (aO _) (by omega))).2.1
        . exact((hc.mH k o' dw).ld t b r ii off g1 g3 (EG hc g5 g7 (aO _) (by omega))).2.1
      have c6: ∀r,cx.R r=(s i).rows.getD r none:=λr=>by
        rw[hR,Z8s hc hI.quiet Io (by omega) (λk hk=>by
          have dw:ops[c+k]? =some ops[c+k]:=aJ (by omega)
          rcases iV (c+k) _ (by omega) (by omega) dw with h|h
          . exact .inl h
          . exact .inr (hnr (c+k) _ (by omega) (by omega) dw h)),show c+(i-c)=i by omega]
      have tp: ∀t,(∀k o',k<i->dh k=false->ops[k]? =some o'->o'.dst≠some t)->(∀k o',i<=k->dh k=true->ops[k]? =some o'->o'.dst≠some t)->Rep cx w (look (s i).env t) (a.tmps.getD t undef):=λt ht he=>by
        have:=hE t (λk o' hk=>ht k o' (by omega)) he
        rwa [Zia hc hI.quiet Io (by omega) (λk o' hk dw hd=>by
          cases hl:dh (c+k) with
          |true=>rfl
          |false=>exact(ht _ _ (by omega) hl dw hd).elim),show c+(i-c)=i by omega]at this
      refine qao (M:=M) ho hm jo c6 (λt ht=>tp t (λk o' hk hl dw hd=>by rw[seen k o' t hk dw hd ht]at hl;cases hl) (λk o' hk hl dw=>DC k o' t hk hl dw ht (aO _))) (hc.op i o ho) λv w' c' hM hn j7 hv=> ?_
      obtain⟨d',g1,g2,g3,g4⟩:=Nf G ops _ (i+1) rfl (by omega)
      have cy: ∀k o' t b r ii off row,k<i->ops[k]? =some o'->dh k=false->o'.guard=none->o'.op= .load t (.tmp b)->lF ops k b=true->look (s ops.size).env b= .ptr r ii off->(s i).rows.getD r none=some row->(ks i=[]/\(s (i+1)).rows.getD r none=some row)\/(Rm ops (s ops.size).env k o'/\(s (i+1)).rows.getD r none=some (row.kill (ks i))):=by
        intro k o' t b r ii off row hk dw hl q1 q2 q3 q4 q5
        rcases(Q6 mJ hk dw ho).2 with⟨_,hq⟩|hb|hb|⟨⟨t4,_,g4⟩,_⟩
        rotate_right
        . have:=hI.wr _ ho
          rw[Hq g4]at this;cases this
        . rw[hI.wr _ ho]at hq;cases hq
        . rw[rj _ hb]at hl;cases hl
        . rcases Rj dw ho hb with⟨t1,b1,t',b',z,r1,r',Rq,DD,mn,iT,p1,p2,p3,p4,p5,p6,p7,p8,p9⟩|⟨q,p1,p2,p3,_⟩|⟨q,p1,p3,_⟩|⟨t1,b1,r1,Rq,DD,args,da,x0,l0,p1,p2,p3,p4,p5,p6,p7,p8,p9⟩|⟨t1,b1,r1,Rq,DD,args,da,td,p1,p2,p3,p4,p5,p6,p7,p8,p9⟩
          . rw[q2]at p3;cases p3
            rw[q4]at p7;cases p7
            obtain⟨f1,f2⟩:=(hc.mH i o ho).st t' b' z r' mn iT p2 p4 (EG hc p6 p8 (by omega) (by omega))
            exact .inl ⟨f1,by rw[f2 r p9];exact q5⟩
          . rw[q2]at p3;simp [mb,pM,cb,q4]at p3
          . rw[q2]at p3;cases p3
          . obtain⟨f1,f2⟩:=(hc.mH i o ho).ap args da x0 l0 p2 p6 p7 (by rw[EH hc p8 (Zcj p9) (by omega) (by omega)];exact p9)
            exact .inl ⟨f1,f2 r row q5⟩
          . refine .inr ⟨⟨td,p7,p8,p9⟩,(hc.mH i o ho).ap2 args da p2 p6 r row q5 ?_⟩
            have e1:=EG hc q3 q4 (show k<=i by omega) (by omega)
            have e2:=EG hc q3 q4 (show k<=i+1 by omega) (by omega)
            rw[hc.env i o b ho,if_neg (Ka q3 (by omega) ho),Ca,e1]at e2
            cases hb:cf r (ks i) with
            |false=>rfl
            |true=>simp [D.gk,D.kill,D.eh,hb]at e2
      have HU: ∀k o' q,k<i->ops[k]? =some o'->dh k=false->mb (s ops.size).env o'.op=some q->ks i=[]\/Kb ops (s ops.size).env k o' q:=by
        intro k o' q hk dw hl hq
        rcases(Q6 mJ hk dw ho).2 with⟨_,F7⟩|hb|hb|⟨⟨t4,_,g4⟩,_⟩
        rotate_right
        . have:=hI.wr _ ho
          rw[Hq g4]at this;cases this
        . rw[hI.wr _ ho]at F7;cases F7
        . rw[rj _ hb]at hl;cases hl
        . rcases Rj dw ho hb with⟨t1,b1,t',b',z,r1,r',Rq,DD,mn,iT,p1,p2,p3,p4,p5,p6,p7,p8⟩|⟨q,p1,p2,p3,p4,p5⟩|⟨q',p1,p3,p4⟩|⟨t1,b1,r1,Rq,DD,args,da,x0,l0,p1,p2,p3,p4,p5,_⟩|⟨t1,b1,r1,Rq,DD,args,da,td,p1,p2,p3,p4,p5,_⟩
          rotate_right
          . rw[p3]at hq;simp [mb,pM,cb,p5]at hq
          rotate_right
          . rw[p3]at hq;simp [mb,pM,cb,p5]at hq
          . rw[p3]at hq;simp [mb,pM,cb,p7]at hq
          . rcases p5 with⟨t',b',z,r',mn,iT,p5,p6,p7⟩|⟨f,args,da,p5,p6⟩
            . exact .inl ((hc.mH i o ho).st t' b' z r' mn iT p2 p5 (EG hc p6 p7 (by omega) (by omega))).1
            . exact .inl ((hc.mH i o ho).cl f args da p2 p5 p6)
          . rw[Vh p3]at hq;cases hq
            exact .inr p4
      have F8: ∀k,c<=k->k<i->ks k=[]:=λk od rR=>by
        have dw:ops[k]? =some ops[k]:=aJ (by omega)
        exact(V3 (hc.op k _ dw) (hI.quiet k _ od rR dw)).1
      have Rr: ∀t,(∀k o,k<i+1->gg k=false->ops[k]? =some o->o.dst≠some t)->(∀k o,i+1<=k->gg k=true->ops[k]? =some o->o.dst≠some t)->Rep c' w' (look (s (i+1)).env t) ((a.put o.dst v).tmps.getD t undef):=by
        intro t ht he
        rw[hc.env i o t ho]
        refine Vj hI.size (λu=>hc.dst i o u ho) (λhd=>by rw[if_pos hd];exact hv) (λhd=> ?_)
        rw[if_neg hd,Ca]
        refine Ao hn.cj (Ws (tp t (λk o' hk hl dw=> ?_) (λk o' hk hl dw=> ?_)))
        . exact ht k o' (by omega) (by rw[h2 k (by omega)];exact hl) dw
        . have gl:k≠i:=λe'=>by rw[e',h0]at hl;cases hl
          exact he k o' (by omega) (by rw[h2 k gl];exact hl) dw
      refine hK _ w' (i+1) d' ⟨g1,g2,λk hk=> ?_,g3,g4,tZ,?_,?_,hI.gb,hI.gq,by
        have:=Ro hc (c0:=c0) (w0:=w0) (w:=w') (dh:=gg) (a:=a.put o.dst v) (c:=i+1) (d:=d') g3 g2 ⟨c',B,hn.mem,j7,Rr,ob.step hM hI.gq hn,λk hk oL=>(nS k (by omega) (by rw[<-h2 k (by omega)];exact oL)).cy hn (by omega) ho,λk j hk hj oL AW e=>oI k j (by omega) (by omega) (by rw[<-h2 k (by omega)];exact oL) (by rw[<-h2 j (by omega)];exact AW) e⟩ (d'-(i+1)) (by omega)
        rwa [show i+1+(d'-(i+1))=d' by omega]at this⟩
      . by_cases e' : k=i
        . rw[e'];exact .inl h1
        . rw [h2 k e']
          cases hl:dh k with
          |true=>exact .inl rfl
          | false =>
            right
            by_cases V6:k<c
            . rcases hI.pre k V6 with h|h
              . rw[hl]at h;cases h
              . rcases h with h|⟨o',q,q1,q2,q3,q4,q8⟩
                rotate_left
                . rcases q8 with q8|q8
                  rotate_left
                  . exact .inr ⟨o',q,q1,q2,q3,q4, .inr q8⟩
                  rcases HU k o' q (by omega) q1 hl q3 with f1|f1
                  rotate_left
                  . exact .inr ⟨o',q,q1,q2,q3,q4, .inr f1⟩
                  refine .inr ⟨o',q,q1,q2,q3,q4, .inl λk' od rR=> ?_⟩
                  by_cases KD:k'<c
                  . exact q8 k' od KD
                  . by_cases En:k'<i
                    . exact F8 k' (by omega) En
                    . rw[show k'=i by omega];exact f1
                obtain⟨o',t,b,r,ii,off,row,aq,q1,q2,q3,q4,q5,q6,q7,q8⟩:=h
                have rI:r<(s c).rows.length:=by
                  by_cases hh:r<(s c).rows.length
                  . exact hh
                  . simp only[aK,aM (show(s c).rows.length<=r by omega)]at q7;cases q7
                have iJ:=Kx hc.toChain hI.quiet Io (aO c) pO (aO i) rI
                rcases cy k o' t b r ii off aq (by omega) q1 hl q2 q3 q4 q5 (by rw[iJ];exact q7) with⟨f1,f2⟩|⟨f1,f2⟩
                . rcases q8 with⟨e8,q8⟩|q8
                  . refine .inl ⟨o',t,b,r,ii,off,row,aq,q1,q2,q3,q4,q5,q6,f2, .inl ⟨e8,λk' od rR=> ?_⟩⟩
                    by_cases KD:k'<c
                    . exact q8 k' od KD
                    . by_cases En:k'<i
                      . exact F8 k' (by omega) En
                      . rw[show k'=i by omega];exact f1
                  . exact .inl ⟨o',t,b,r,ii,off,row,aq,q1,q2,q3,q4,q5,q6,f2, .inr ⟨q8.1,q8.2.elim λL hL=>⟨L,hL.1,λkk hk=>(hL.2 kk hk).elim λj hj=>⟨j,hj.1,by omega,hj.2.2⟩⟩⟩⟩
                . refine .inl ⟨o',t,b,r,ii,off,row,_,q1,q2,q3,q4,q5,q6,f2, .inr ⟨f1,?_⟩⟩
                  rcases q8 with⟨e8,_⟩|⟨_,L,e8,hL⟩
                  . exact⟨[ks i],by rw[e8];rfl,λkk hk=>⟨i,by omega,by omega,List.mem_singleton.1 hk⟩⟩
                  . refine⟨L++[ks i],by rw[List.foldl_append,<-e8];rfl,λkk hk=> ?_⟩
                    rcases List.mem_append.1 hk with hk|hk
                    . obtain⟨j,j1,j2,j3⟩:=hL kk hk
                      exact⟨j,j1,by omega,j3⟩
                    . exact⟨i,by omega,by omega,List.mem_singleton.1 hk⟩
            . have dw:ops[k]? =some ops[k]:=aJ (by omega)
              rcases iV k _ (by omega) (by omega) dw with h|h
              . rw[hl]at h;cases h
              . have go: ∀t b r ii off,ops[k].guard=none->ops[k].op= .load t (.tmp b)->lF ops k b=true->look (s ops.size).env b= .ptr r ii off->Rn ops s ks k (i+1):=by
                  intro t b r ii off p1 p3 p5 p7
                  obtain⟨row,cr⟩:=((hc.mH k _ dw).ld t b r ii off p1 p3 (EG hc p5 p7 (aO _) (by omega))).2.2.1
                  have rI:r<(s k).rows.length:=by
                    by_cases hh:r<(s k).rows.length
                    . exact hh
                    . simp only[aK,aM (show(s k).rows.length<=r by omega)]at cr;cases cr
                  have iJ:=Kx hc.toChain hI.quiet Io (show c<=k by omega) (show k<=i by omega) (aO i) rI
                  rcases cy k _ t b r ii off row (by omega) dw hl p1 p3 p5 p7 (by rw[iJ];exact cr) with⟨f1,f2⟩|⟨f1,f2⟩
                  rotate_left
                  . exact .inl ⟨_,t,b,r,ii,off,row,_,dw,p1,p3,p5,p7,cr,f2, .inr ⟨f1,[ks i],rfl,λkk hk=>⟨i,by omega,by omega,List.mem_singleton.1 hk⟩⟩⟩
                  refine .inl ⟨_,t,b,r,ii,off,row,row,dw,p1,p3,p5,p7,cr,f2, .inl ⟨rfl,λk' od rR=> ?_⟩⟩
                  by_cases En:k'<i
                  . exact F8 k' (by omega) En
                  . rw[show k'=i by omega];exact f1
                rcases Rj dw ho h with⟨t,b,t',b',z,r,r',ii,off,mn,iT,p1,p2,p3,p4,p5,p6,p7,p8,p9⟩|⟨q,p1,p2,p3,p4,p5⟩|⟨q,p1,p3,p4⟩|⟨t,b,r,ii,off,_,_,_,_,p1,p2,p3,p5,p7,_⟩|⟨t,b,r,ii,off,_,_,_,p1,p2,p3,p5,p7,_⟩
                rotate_right
                . exact go t b r ii off p1 p3 p5 p7
                rotate_left 2
                rotate_left
                . exact go t b r ii off p1 p3 p5 p7
                rotate_right
                . exact .inr ⟨_,q,dw,p1,Vh p3,λa ha=>(p4.1 a ha).1, .inr p4⟩
                rotate_left
                . rcases HU k _ q (by omega) dw hl p3 with f1|f1
                  rotate_left
                  . exact .inr ⟨_,q,dw,p1,p3,p4, .inr f1⟩
                  refine .inr ⟨_,q,dw,p1,p3,p4, .inl λk' od rR=> ?_⟩
                  by_cases En:k'<i
                  . exact F8 k' (by omega) En
                  . rw[show k'=i by omega];exact f1
                exact go t b r ii off p1 p3 p5 p7
      . cases hd:o.dst<;>simp [Act.put]<;>exact hI.size
      . first|exact mg.put (hI.defers.step hm hn.fr)|exact mg.put (hI.defers.step hm hn.toW.fr)
    ·
      have Il:i<d:=by omega
      have hq:=hI.quiet i o pO Il ho
      have Nh:=V2 hq
      have Ni: ∀t∈o.looksAt ops,Rep cx w (look (s i).env t) (a.tmps.getD t undef):=λt ht=>by
        have Im : ∀n,c+n<=d->jj ops s val dh c n t=if c+n<=i then look (s (c+n)).env t else look (s i).env t:=by
          intro n
          induction n with
          |zero=>intro _;simp only[jj,bG];rw[if_pos pO]
          | succ n ih=>
            intro hn
            obtain⟨ok,dw⟩: ∃ok,ops[c+n]? =some ok:=⟨_,aJ (show c+n<ops.size by omega)⟩
            have ih:=ih (by omega)
            simp only[jj,dw,aL]
            by_cases hk:c+n<i
            . have hA:c+(n+1)<=i:=by omega
              have Sv:c+n<=i:=by omega
              rw[if_pos hA,show c+(n+1)=c+n+1 by omega,hc.toChain.ER dw (hI.quiet _ _ (by omega) (by omega) dw) t]
              rw[if_pos Sv]at ih
              by_cases hd:ok.dst=some t
              . rw[if_pos ⟨seen _ _ t hk dw hd ht,hd⟩,if_pos hd]
              . rw[if_neg (λg=>hd g.2),if_neg hd,ih]
            . have Ip: ¬(dh (c+n)=true/\ok.dst=some t):=by
                rintro⟨g1,g2⟩
                by_cases e':c+n=i
                . rw[e',h0]at g1;cases g1
                . have oc:i<c+n:=by omega
                  rcases(Q6 mJ oc ho dw).1 with ua|hb
                  . exact(Gf ua).2.2 g2 ht
                  . have:=oa _ _ g1 hb
                    rw[h0]at this;cases this
              have hA: ¬c+(n+1)<=i:=by omega
              rw[if_neg Ip,ih,if_neg hA]
              split
              . rw[show c+n=i by omega]
              . rfl
        have:=hE t (λk o' hk hl dw hd=>by rw[seen k o' t (by omega) dw hd ht]at hl;cases hl) (λk o' hk hl dw=>DC k o' t hk hl dw ht hid)
        rw[Im (d-c) (by omega),if_neg (by omega)]at this
        exact this
      have hlen: ∀k l,c<=k->k<=l->l<=d->(s k).rows.length<=(s l).rows.length:=λk l h1 h2 h3=>Kw hc.toChain hI.quiet hI.dn h1 h2 h3
      have jb: ∀k l,c<=k->k<=l->l<=d-> ∀r,r<(s k).rows.length->(s l).rows.getD r none=(s k).rows.getD r none:=λk l h1 h2 h3 r hr=>Kx hc.toChain hI.quiet hI.dn h1 h2 h3 hr
      have BN: ∀n,c+n<=d-> ∀r,r<(s i).rows.length-> ∀row,kI s dh c n r=some row->(s i).rows.getD r none=some row:=by
        intro n
        induction n with
        | zero=>
          intro _ r hr row h
          simp only[kI]at h
          by_cases V7:r<(s c).rows.length
          . rw[jb c i (aO _) pO (by omega) r V7];exact h
          . simp only[aK,aM (show(s c).rows.length<=r by omega)]at h;cases h
        | succ n ih=>
          intro hn r hr row h
          simp only[kI]at h
          split at h
          . rename_i g
            obtain⟨g1,g2,g3⟩:=g
            have V8:c+n<i:=by
              by_cases mV:c+n<i
              . exact mV
              . by_cases e':c+n=i
                . rw[e',h0]at g1;cases g1
                . have:=hlen i (c+n) pO (by omega) (by omega);omega
            rw[jb (c+n+1) i (by omega) (by omega) (by omega) r g3];exact h
          . exact ih (by omega) r hr row h
      have BO: ∀n,c+n<=d-> ∀r,(s i).rows.length<=r->r<(s (i+1)).rows.length->kI s dh c n r=none:=by
        intro n
        induction n with
        | zero=>
          intro _ r h1 h2
          have:=hlen c i (aO _) pO (by omega)
          simp only[kI,aK,aM (show(s c).rows.length<=r by omega),Option.getD_none]
        | succ n ih=>
          intro hn r h1 h2
          simp only[kI]
          rw[if_neg]
          . exact ih (by omega) r h1 h2
          . rintro⟨g1,g2,g3⟩
            by_cases e':c+n=i
            . rw[e',h0]at g1;cases g1
            . by_cases mV:c+n<i
              . have:=hlen (c+n+1) i (by omega) (by omega) (by omega);omega
              . have:=hlen (i+1) (c+n) (by omega) (by omega) (by omega);omega
      have pb:mK cx (s i).rows:=λr row aq g1 g2=>by
        have hr:r<(s i).rows.length:=by
          by_cases h:r<(s i).rows.length
          . exact h
          . simp only[aK,aM (show(s i).rows.length<=r by omega)]at g2;cases g2
        rw[hR]at g1
        have:=BN (d-c) (by omega) r hr row g1
        rw[this]at g2;exact Option.some.inj g2
      have fin: ∀v w' c',Kv cx w (s i).rows (s (i+1)).rows c' w'->Rep c' w' (val i) v->K (a.put o.dst v) w':=by
        intro v w' c' hn hv
        refine hK _ w' c d ⟨hI.cd,hI.dn,λk hk=>by rw[h2 k (by omega)];exact hI.pre k hk,hI.quiet,hI.wr,tZ,?_,?_,hI.gb,hI.gq,c',B,hn.mem,λr=> ?_,λt ht he=> ?_,ob.step (ks:=[]) (λk hk=>by simp [cf]at hk) hI.gq hn.toW.toK,λk hk oL=>(nS k hk (by rw[<-h2 k (by omega)];exact oL)).cy hn.toW.toK (by omega) ho,λk j hk hj oL AW e=>oI k j hk hj (by rw[<-h2 k (by omega)];exact oL) (by rw[<-h2 j (by omega)];exact AW) e⟩
        . cases hd:o.dst<;>simp [Act.put]<;>exact hI.size
        . first|exact mg.put (hI.defers.step hm hn.fr)|exact mg.put (hI.defers.step hm hn.toW.fr)
        . rw[hn.rows,hR,V5 pO h0 h1 h2 (d:=d) (λk od rR=>hlen (i+1) k (by omega) (by omega) (by omega)) (by omega) (by omega)]
        . have hl: ∀k o',i<k->dh k=true->ops[k]? =some o'->o'.dst=some t->o.dst=some t->False:=by
            intro k o' oc hk dw V9 Wa
            rcases(Q6 mJ oc ho dw).1 with ua|hb
            . exact(Gf ua).1 Wa V9
            . have:=oa _ _ hk hb
              rw[h0]at this;cases this
          rw[V4 ho pO h0 h1 h2 hl (by omega)]
          have hold:=Ao hn.cj (hE t (λk o' hk hl dw=>ht k o' hk (by rw[h2 k (by omega)];exact hl) dw) (λk o' hk hl dw=>he k o' hk (by rw[h2 k (by omega)];exact hl) dw))
          refine Vj hI.size (λu=>hc.dst i o u ho) (λhd=>by rw[if_pos hd];exact hv) (λhd=>by rw[if_neg hd];exact hold)
      have skip:val i= .dt []->(s (i+1)).rows=(s i).rows->K (a.put o.dst undef) w:=λe1 e2=>
        fin undef w cx ⟨hm,jq.refl _ _,Fr.refl _ _,λb hb=> .inl hb,λr=>by rw[e2,if_neg (by omega)],λ_ _=>⟨rfl,Iff.rfl⟩,λr g1 g2=>by rw[e2]at g2;omega⟩ (by rw[e1];exact Sw _ _)
      have run:pN P G M o (cb (s i).env) (s i).rows (ks i) (val i) (s (i+1)).rows->o.nk P a w K Q:=λhX=>by
        unfold pN at hX
        rw[Nh]at hX
        refine hX.2.2 cx w a hm jo pb (λr g1 g2=>by rw[hR];exact BO (d-c) (by omega) r g1 g2) (λx hx=> ?_) K Q fin
        cases x with
        | tmp t=>
          refine Ni t ?_
          unfold Oper.looksAt
          exact gQ _ (List.mem_filterMap.2 ⟨.tmp t,by simpa using hx,rfl⟩)
        | const v=>
          simp only[cb,Act.eval]
          cases hv:Gg v with
          |none=>trivial
          |some d=>exact Nj hv cx w
        |global g=>trivial
        |func f=>exact Ky f
      have hG:=hc.op i o ho
      unfold wpOp
      simp only[ho]
      unfold nA at hG
      cases hg:o.guard with
      | none=>
        simp only[hg]at hG
        have hw:Region.wanted o (yielded ops a.tmps)=true:=by simp [Region.wanted,hg]
        rw[if_pos hw]
        exact run hG
      | some jw=>
        obtain⟨j,want⟩:=jw
        simp only[hg]at hG
        obtain⟨g,g2,hG⟩:=hG
        have hr:=Ni g (by
          unfold Oper.looksAt
          refine gP _ ?_
          simp only[hg,g2];simp)
        rcases hG with⟨b,g3,g4⟩|⟨g3,_,e1,e2⟩
        rotate_left
        . rw[g3]at hr
          rw[if_neg (by rw[Sx (o:=o) hg g2 hr];simp)]
          exact skip e1 e2
        rw[g3]at hr
        have hw:=Sy (o:=o) hg g2 hr
        by_cases e':b=want
        . rw[if_pos e']at g4
          rw[if_pos (by rw[hw];simpa using e')]
          exact run g4
        . rw[if_neg e']at g4
          rw[if_neg (by rw[hw];simpa using e')]
          exact skip g4.2.1 g4.2.2
  ·
    have hic:i<c:=by omega
    rcases hI.pre i hic with h|h
    . rw[h0]at h;cases h
    have Rs: ∀b,lF ops i b=true->(∀k,i<k->k<c->ks k=[])->ks i=[]->look (s c).env b=look (s i).env b:=by
      intro b hb q8 q9
      have: ∀k,i<=k->k<=c->look (s k).env b=look (s i).env b:=by
        intro k
        induction k with
        |zero=>intro h1 _;rw[show i=0 by omega]
        | succ k ih=>
          intro h1 h2
          by_cases e':i=k+1
          . rw[e']
          . have dw:ops[k]? =some ops[k]:=aJ (by omega)
            rw[hc.env k _ b dw,if_neg (Ka hb (by omega) dw)]
            by_cases e2:k=i
            . rw[e2,q9,o9]
            . rw[q8 k (by omega) (by omega),o9];exact ih (by omega) (by omega)
      exact this c (by omega) (aO _)
    have oG: ∀b,lF ops i b=true->b∈o.looksAt ops->Rep cx w (look (s c).env b) (a.tmps.getD b undef):=λb hnb NN=>by
      have:=hE b (λk o' hk hl dw hd=>by
        by_cases V8:k<i
        . rw[seen k o' b V8 dw hd NN]at hl;cases hl
        . exact Ka hnb (by omega) dw hd) (λk o' hk hl dw=>DC k o' b hk hl dw NN hid)
      rwa [Qw7 hc (λk o' hk dw hd=>(Ka hnb (by omega) dw hd).elim)]at this
    obtain ⟨q2,q8,hN,Dx⟩:o.guard=none/\((∀k,i<k->k<c->ks k=[])\/ ∀t,o.dst=some t->lF ops (i+1) t=true/\tt (look (s ops.size).env t)=true)/\pR P o (cb (s c).env) (s c).rows (val i) (s c).rows/\ ∀x∈o.op.operands,Rep cx w (cb (s c).env x) (a.eval x):=by
      rcases h with⟨o',t0,b,r,ii,off,row,aq,q1,q2,q3,q4,q5,q6,q7,q8⟩|⟨o',q,q1,q2,q3,q4,q8⟩
      . rw [ho]at q1;cases q1
        have hpc:look (s c).env b= .ptr r ii off:=EG hc q4 q5 (by omega) (by omega)
        have hpi:look (s i).env b= .ptr r ii off:=EG hc q4 q5 (by omega) (by omega)
        have tv:=(hc.mH i o ho).ld t0 b r ii off q2 q3 hpi
        have eu:cb (s c).env (.tmp b)= .ptr r ii off:=by simp [cb,hpc]
        have q9:((∀k,i<k->k<c->ks k=[])\/ ∀t,o.dst=some t->lF ops (i+1) t=true/\tt (look (s ops.size).env t)=true)/\pR P o (cb (s c).env) (s c).rows (val i) (s c).rows:=by
          rcases q8 with⟨e8,q8⟩|⟨⟨td,d1,d2,d3⟩,L,e8,hL⟩
          . subst e8
            exact⟨.inl q8,tv.2.2.2.1 (cb (s c).env) (s c).rows eu (by rw[q6,q7])⟩
          . refine⟨.inr λt ht=>by rw[d1]at ht;cases ht;exact⟨d2,Ri d3⟩,tv.2.2.2.2 (cb (s c).env) (s c).rows row L ?_ (λkk hk=> ?_) eu q6 (by rw[q7,e8])⟩
            rotate_left
            . obtain⟨j,j1,j2,rfl⟩:=hL kk hk
              have h5:=EH hc d2 (Ri d3) (aO _) (show i+1<=ops.size by omega)
              have h6:=hc.env i o td ho
              rw[if_pos d1,h5]at h6
              have g1:=EH hc d2 (Ri d3) (show i+1<=j by omega) (show j<=ops.size by omega)
              have g2:=EH hc d2 (Ri d3) (show i+1<=j+1 by omega) (show j+1<=ops.size by omega)
              have dw:ops[j]? =some ops[j]:=aJ (by omega)
              rw[hc.env j _ td dw,if_neg (Ka d2 (by omega) dw),Ca,g1,Zqg d3]at g2
              rw[<-h6];exact g2
            have h5:=EH hc d2 (Ri d3) (aO _) (show i+1<=ops.size by omega)
            have h6:=hc.env i o td ho
            rw[if_pos d1]at h6
            rw[<-h6,h5];exact d3
        refine⟨q2,q9.1,q9.2,λx hx=> ?_⟩
        have jL:x= .tmp b:=by simpa [q3,Op.operands] using hx
        rw[jL]
        refine oG b q4 ?_
        unfold Oper.looksAt
        exact gQ _ (List.mem_filterMap.2 ⟨.tmp b,by rw[q3];simp [Op.operands],rfl⟩)
      . rw [ho]at q1;cases q1
        have tv:=(hc.mH i o ho).pu q q2 (Zn4 hc q3 q4 (aO _) (by omega))
        refine⟨q2,q8.imp id λg t ht=>⟨(g.2 t ht).1,Qmd (g.2 t ht).2⟩,tv.2.2 (cb (s c).env) (s c).rows (λx hx=> ?_),λy hy=> ?_⟩
        . cases x with
          | tmp b=>
            rcases q8 with q8|q8
            . exact Rs b (q4 b (Z5i q3 hx)) q8 tv.1
            . obtain⟨g1,g2⟩:=q8.1 b (Z5i q3 hx)
              show look (s c).env b=look (s i).env b
              rw[EH hc g1 (Qmd g2) (by omega) (by omega),EH hc g1 (Qmd g2) (aO _) (by omega)]
          |_=>rfl
        . cases y with
          | tmp b=>
            refine oG b (q4 b (Z5i q3 hy)) ?_
            unfold Oper.looksAt
            exact gQ _ (List.mem_filterMap.2 ⟨.tmp b,by simpa using hy,rfl⟩)
          | const v=>
            simp only[cb,Act.eval]
            cases hv:Gg v with
            |none=>trivial
            |some d=>exact Nj hv cx w
          |global g=>trivial
          |func f=>exact Ky f
    have pb:mK cx (s c).rows:=λr' Fj jE g1 g2=>by
      have hr:r'<(s c).rows.length:=by
        by_cases h:r'<(s c).rows.length
        . exact h
        . simp only[aK,aM (show(s c).rows.length<=r' by omega)]at g2;cases g2
      rw[hR,Zfp hc hI.quiet Io hr (by omega),g2]at g1
      exact(Option.some.inj g1).symm
    have fin: ∀v w' c',Kv cx w (s c).rows (s c).rows c' w'->Rep c' w' (val i) v->K (a.put o.dst v) w':=by
      intro v w' c' hn hv
      refine hK _ w' c d ⟨We,Io,λk hk=> ?_,hI.quiet,hI.wr,tZ,?_,?_,hI.gb,hI.gq,c',B,hn.mem,λr'=> ?_,λt ht he=> ?_,ob.step (ks:=[]) (λk hk=>by simp [cf]at hk) hI.gq hn.toW.toK,λk hk oL=>(nS k hk (by rw[<-h2 k (by omega)];exact oL)).cy hn.toW.toK (by omega) ho,λk j hk hj oL AW e=>oI k j hk hj (by rw[<-h2 k (by omega)];exact oL) (by rw[<-h2 j (by omega)];exact AW) e⟩
      . by_cases e':k=i
        . rw[e'];exact .inl h1
        . rw[h2 k e'];exact hI.pre k hk
      . cases hd:o.dst<;>simp [Act.put]<;>exact hI.size
      . first|exact mg.put (hI.defers.step hm hn.fr)|exact mg.put (hI.defers.step hm hn.toW.fr)
      . rw[hn.rows,hR,if_neg (by omega),Su (λk hk=>h2 _ (by omega))]
      . rw [Ss (λk hk=>h2 _ (by omega))]
        refine Vj hI.size (λu=>hc.dst i o u ho) (λhd=> ?_) (λhd=> ?_)
        ·
          have oQ: ∀k o',i<k->ops[k]? =some o'->o'.dst=some t->dh k=false:=λk o' hk dw tq=>by
            cases hl:dh k with
            |false=>rfl
            | true=>
              rcases(Q6 mJ hk ho dw).1 with ua|hb
              . exact((Gf ua).1 hd tq).elim
              . have:=oa _ _ hl hb
                rw[h0]at this;cases this
          have Jaf: ∀k o',i<k->k<c->ops[k]? =some o'->o'.dst≠some t:=λk o' od rR dw tq=>
            ht k o' rR (by rw[h2 k (by omega)];exact oQ k o' od dw tq) dw tq
          rw[Qw7 hc (λk o' hk dw tq=>oQ _ o' (by omega) dw tq)]
          have: ∀k,i<k->k<=c->look (s k).env t=val i:=by
            rcases q8 with q8|q8
            rotate_left
            . intro k od rR
              obtain⟨g1,g2⟩:=q8 t hd
              have:=hc.env i o t ho
              rw[if_pos hd]at this
              rw[<-this,EH hc g1 g2 (by omega) (by omega),EH hc g1 g2 (aO _) (by omega)]
            intro k
            induction k with
            |zero=>intro h;omega
            | succ k ih=>
              intro od rR
              have dw:ops[k]? =some ops[k]:=aJ (by omega)
              by_cases e':k=i
              . subst e'
                rw[ho]at dw
                rw[hc.env k o t ho,if_pos hd]
              . rw[hc.env k _ t dw,if_neg (Jaf k _ (by omega) (by omega) dw),q8 k (by omega) (by omega),o9]
                exact ih (by omega) (by omega)
          rw[this c hic (aO _)]
          exact hv
        . refine Ao hn.cj (hE t (λk o' hk hl dw tq=> ?_) (λk o' hk hl dw=>he k o' hk (by rw[h2 k (by omega)];exact hl) dw))
          by_cases e':k=i
          . subst e'
            rw[ho]at dw;cases dw
            exact hd tq
          . exact ht k o' hk (by rw[h2 k e'];exact hl) dw tq
    unfold wpOp
    simp only[ho]
    have hw:Region.wanted o (yielded ops a.tmps)=true:=by simp [Region.wanted,q2]
    rw[if_pos hw]
    exact hN.2 cx w a hm jo pb (λr' g1 g2=>by omega) Dx K Q fin
theorem Zh4{c0:Ctx}{w0:World}{dh:Nat->Bool}{a:Act}{w:World}{c d:Nat}(hI:Inv2 P G N M ops s ks val c0 w0 dh a w c d)(iV:∀i,i<ops.size->dh i=true):∃cx,ft N M c0 w0 cx w (s ops.size) a:=by
 obtain⟨cx,B,hm,hR,hE,ob,nS,oI⟩:=hI.ctx
 have hd:d=ops.size:=by
  by_cases h:d<ops.size
  ·obtain⟨o',t,_,_,g1,_,g3,_⟩:=nS d (aO _) (iV d h)
   have:=hI.wr _ g1
   unfold lH at this
   rw[g3]at this;cases this
  ·have:=hI.dn;omega
 subst hd
 have We:=hI.cd
 have hl:∀k,k<ops.size-c->dh (c+k)=true:=λk hk=>iV _ (by omega)
 refine⟨cx,hm,λr=>?_,λt=>?_,hI.size,hI.defers,hI.gb,hI.gq,ob⟩
 ·rw[hR,Sp hc.toChain hI.quiet hI.dn (by omega) hl,show c+(ops.size-c)=ops.size by omega]
 ·have:=hE t (λk o hk h0 dw=>by rw[iV k (Array.getElem?_eq_some_iff.1 dw).1]at h0;cases h0) (λk o hk _ dw=>by have:=(Array.getElem?_eq_some_iff.1 dw).1;omega)
  rw[So hc.toChain hI.quiet hI.dn (by omega) hl]at this
  rwa [show c+(ops.size-c)=ops.size by omega]at this
theorem qw{c0:Ctx}{w0:World}{Q:Exit->Act->World->Prop}(hQ:∀c w a,ft N M c0 w0 c w (s ops.size) a->Q .normal a w):∀(fuel:Nat) (listed:Array Bool) (a:Act) (w:World) (c d:Nat),listed.size=ops.size->mW (λi=>listed.getD i false) ops.size<=fuel->
 Inv2 P G N M ops s ks val c0 w0 (λi=>listed.getD i false) a w c d->Zl P .any ops Q fuel listed a w:=by
 intro fuel
 have Bq:∀(listed:Array Bool) (i:Nat),listed.size=ops.size->(i∈Region.ready .any ops listed↔ ∃o,ops[i]?=some o/\listed.getD i false=false/\∀e∈o.after,Region.binds .any e=true->listed.getD e.on false=true):=by
  intro listed i fv
  unfold Region.ready
  rw[gY,gZ]
  constructor
  ·rintro⟨h1,h2⟩
   have ho:ops[i]?=some ops[i]:=aJ h1
   simp only[ho,aR,aG,aE,aS]at h2
   refine⟨_,ho,?_,λe he hb=>?_⟩
   ·have hl:i<listed.size:=by omega
    have:=h2.1
    simpa[aP,hl]using this
   ·have:=Array.all_eq_true'.1 h2.2 e he
    simpa[hb]using this
  ·rintro⟨o,ho,h1,h2⟩
   have cq:=(Array.getElem?_eq_some_iff.1 ho).1
   refine⟨cq,?_⟩
   simp only[ho,aR,aG,aE,aS]
   have hl:i<listed.size:=by omega
   refine⟨by simpa[aP,hl]using h1,Array.all_eq_true'.2 λe he=>?_⟩
   cases hb:Region.binds .any e with
   |false=>rfl
   |true=>simpa[hb]using h2 e he hb
 have ku:∀(listed:Array Bool),listed.size=ops.size->Region.ready .any ops listed=[]->∀i,i<ops.size->listed.getD i false=true:=by
  intro listed fv he i
  induction i using Nat.strongRecOn with
  |_ i ih=>
   intro hi
   cases hl:listed.getD i false with
   |true=>rfl
   |false=>
    exfalso
    have ho:ops[i]?=some ops[i]:=aJ hi
    have:i∈Region.ready .any ops listed:=(Bq listed i fv).2 ⟨_,ho,hl,λe Am hb=>by
     have:=Zfy mJ ho e Am hb
     exact ih e.on this (by omega)⟩
    rw[he]at this;cases this
 induction fuel with
 |zero=>
  intro listed a w c d fv BP hI
  have iV:=Wc (dh:=λi=>listed.getD i false) (Nat.le_zero.1 BP)
  refine⟨?_,?_⟩
  ·rw[List.eq_nil_iff_forall_not_mem]
   intro i hi
   obtain⟨o,ho,h1,_⟩:=(Bq listed i fv).1 hi
   have:=iV i (Array.getElem?_eq_some_iff.1 ho).1
   rw[h1]at this;cases this
  ·obtain⟨cx,hs⟩:=Zh4 hc mJ hI iV
   exact hQ cx w a hs
 |succ fuel ih=>
  intro listed a w c d fv BP hI
  refine⟨λhe=>?_,λi hi=>?_⟩
  ·obtain⟨cx,hs⟩:=Zh4 hc mJ hI (ku listed fv he)
   exact hQ cx w a hs
  ·obtain⟨o,ho,h1,h2⟩:=(Bq listed i fv).1 hi
   have cq:=(Array.getElem?_eq_some_iff.1 ho).1
   have sx:(listed.setIfInBounds i true).getD i false=true:=by
    have hl:i<listed.size:=by omega
    simp[aP,hl]
   have sA:∀k,k≠i->(listed.setIfInBounds i true).getD k false=listed.getD k false:=λk hk=>by
    rw[aF,aQ (Ne.symm hk),<-aF]
   refine yv hc mJ (gg:=λk=>(listed.setIfInBounds i true).getD k false) hI ho h1 sx sA h2 λa' w' c' d' Wf=>?_
   refine ih _ a' w' c' d' (by simpa using fv) ?_ Wf
   have:=Wd (dh:=λk=>listed.getD k false) (gg:=λk=>(listed.setIfInBounds i true).getD k false) h1 sx sA cq
   omega
end
theorem Bq{ops:Array Oper}{listed:Array Bool}{i:Nat}(fv:listed.size=ops.size):i∈Region.ready .any ops listed↔ ∃o,ops[i]?=some o/\listed.getD i false=false/\∀e∈o.after,Region.binds .any e=true->listed.getD e.on false=true:=by
 unfold Region.ready
 rw[gY,gZ]
 constructor
 ·rintro⟨h1,h2⟩
  have ho:ops[i]?=some ops[i]:=aJ h1
  simp only[ho,aR,aG,aE,aS]at h2
  refine⟨_,ho,?_,λe he hb=>?_⟩
  ·have hl:i<listed.size:=by omega
   have:=h2.1
   simpa[aP,hl]using this
  ·have:=Array.all_eq_true'.1 h2.2 e he
   simpa[hb]using this
 ·rintro⟨o,ho,h1,h2⟩
  have cq:=(Array.getElem?_eq_some_iff.1 ho).1
  refine⟨cq,?_⟩
  simp only[ho,aR,aG,aE,aS]
  have hl:i<listed.size:=by omega
  refine⟨by simpa[aP,hl]using h1,Array.all_eq_true'.2 λe he=>?_⟩
  cases hb:Region.binds .any e with
  |false=>rfl
  |true=>simpa[hb]using h2 e he hb
theorem xw{r:Nat}:∀{l:List Nat} {k:Nat},r∉l->pos r l k=k+l.length
 |[],k,_=>rfl
 |x::l,k,h=>by
  simp only[List.mem_cons,not_or]at h
  simp only[pos]
  cases hb:Nat.beq x r with
  |true=>exact(h.1 (bE hb).symm).elim
  |false=>show pos r l (k+1)=_;rw[xw h.2];simp;omega
section
variable {p:List Nat} {ops:Array Oper} (hp:Vk p ops.size=true)
include hp
theorem Vl:p.length=ops.size/\(∀i,i<ops.size->i∈p)/\(∀i∈p,i<ops.size)/\p.Nodup:=by
 unfold Vk at hp
 simp only[aE]at hp
 obtain⟨h1,h2,h3,h4⟩:=hp
 exact⟨bE h1,λi hi=>ot.1 (List.all_eq_true.1 h2 i (List.mem_range.2 hi)),λi hi=>lE (List.all_eq_true.1 h3 i hi),MB.1 h4⟩
theorem HV{i:Nat}(hi:i<ops.size):pos i p 0<ops.size/\p[pos i p 0]?=some i:=by
 obtain⟨h1,h2,h3,h4⟩:=Vl hp
 have:=BB (h2 i hi)
 exact⟨by have:=(List.getElem?_eq_some_iff.1 this).1;omega,this⟩
theorem Zgl{i:Nat}(h:pos i p 0<ops.size):i<ops.size:=by
 obtain⟨h1,h2,h3,h4⟩:=Vl hp
 by_cases hm:i∈p
 ·exact h3 i hm
 ·rw[xw hm]at h;omega
theorem Qoc:(ny p ops).size=ops.size:=by
 obtain⟨h1,_⟩:=Vl hp
 simp[ny,h1]
theorem Vm{k i:Nat}{o:Oper}(hk:p[k]?=some i)(ho:ops[i]?=some o):(ny p ops)[k]?=some (MV p o):=by
 have:ops.getD i default=o:=by
  have cq:=(Array.getElem?_eq_some_iff.1 ho).1
  have:=(Array.getElem?_eq_some_iff.1 ho).2
  simp[aP,cq,this]
 simp[ny,hk,ho]
theorem Zg2(tmps:Array Value)(j:Nat):yielded (ny p ops) tmps (pos j p 0)=yielded ops tmps j:=by
 by_cases hj:j<ops.size
 ·have ho:ops[j]?=some ops[j]:=aJ hj
  have h1:=Vm hp (HV hp hj).2 ho
  simp only[yielded,h1,ho,aL]
  rfl
 ·have h1:ops[j]?=none:=cL (by omega)
  have h2:(ny p ops)[pos j p 0]?=none:=by
   refine cL ?_
   rw[Qoc hp]
   by_cases h:pos j p 0<ops.size
   ·exact(hj (Zgl hp h)).elim
   ·omega
  simp only[yielded,h1,h2,Option.bind_none]
theorem Zlk{o:Oper}(tmps:Array Value):Region.wanted (MV p o) (yielded (ny p ops) tmps)=Region.wanted o (yielded ops tmps):=by
 unfold Region.wanted MV
 cases hg:o.guard with
 |none=>rfl
 |some jw=>obtain⟨j,w⟩:=jw;simp only[Zg2 hp]
theorem zw{P:Program}{Q:Exit->Act->World->Prop}{i:Nat}{K K':Act->World->Prop}{a:Act}{w:World}(hi:i<ops.size)(hK:∀a w,K' a w->K a w)(h:wpOp P (ny p ops) Q (pos i p 0) K' a w):wpOp P ops Q i K a w:=by
 have ho:ops[i]?=some ops[i]:=aJ hi
 have h1:=Vm hp (HV hp hi).2 ho
 unfold wpOp at h⊢
 simp only[ho]
 simp only[h1,Zlk hp]at h
 split at h
 ·rename_i hw
  rw[if_pos hw]
  exact Wr (Q:=Q) hK h
 ·rename_i hw
  rw[if_neg hw]
  exact hK _ _ h
theorem Zow{P:Program}{Q:Exit->Act->World->Prop}:∀(fuel:Nat) (listed fi:Array Bool) (a:Act) (w:World),listed.size=ops.size->fi.size=ops.size->(∀i,i<ops.size->fi.getD (pos i p 0) false=listed.getD i false)->
 Zl P .any (ny p ops) Q fuel fi a w->Zl P .any ops Q fuel listed a w:=by
 have fv:=Qoc hp
 obtain⟨f1,f2,f3,f4⟩:=Vl hp
 have up:∀(listed fi:Array Bool) (i:Nat),listed.size=ops.size->fi.size=ops.size->(∀i,i<ops.size->fi.getD (pos i p 0) false=listed.getD i false)->i∈Region.ready .any ops listed->i<ops.size/\pos i p 0∈Region.ready .any (ny p ops) fi:=by
  intro listed fi i h1 h2 h3 hi
  obtain⟨o,ho,g1,g2⟩:=(Bq h1).1 hi
  have cq:=(Array.getElem?_eq_some_iff.1 ho).1
  refine⟨cq,(Bq (by rw[h2,fv])).2 ⟨_,Vm hp (HV hp cq).2 ho,by rw[h3 i cq];exact g1,λe he hb=>?_⟩⟩
  simp only[MV,hH]at he
  obtain⟨e',Am,rfl⟩:=he
  have:=g2 e' Am hb
  have KC:e'.on<ops.size:=by
   by_cases h:e'.on<ops.size
   ·exact h
   ·rw[aP,dif_neg (by omega)]at this;cases this
  show fi.getD (pos e'.on p 0) false=true
  rw[h3 _ KC];exact this
 have down:∀(listed fi:Array Bool) (k:Nat),listed.size=ops.size->fi.size=ops.size->(∀i,i<ops.size->fi.getD (pos i p 0) false=listed.getD i false)->k∈Region.ready .any (ny p ops) fi->∃i,i∈Region.ready .any ops listed:=by
  intro listed fi k h1 h2 h3 hk
  obtain⟨o',jd,g1,g2⟩:=(Bq (by rw[h2,fv])).1 hk
  have cq:=(Array.getElem?_eq_some_iff.1 jd).1
  rw[fv]at cq
  have BC:p[k]?=some p[k]:=List.getElem?_eq_getElem (by omega)
  have hi:=f3 _ (fX BC)
  have ho:ops[p[k]]?=some ops[p[k]]:=aJ hi
  have Rt:pos p[k] p 0=k:=by
   have:=(HV hp hi).2
   exact(List.getElem?_inj (by have:=(HV hp hi).1;omega) f4).1 (this.trans BC.symm)
  have h4:=Vm hp BC ho
  rw[jd]at h4;cases h4
  refine⟨p[k],(Bq h1).2 ⟨_,ho,by rw[<-h3 _ hi,Rt];exact g1,λe he hb=>?_⟩⟩
  have:=g2 (DE p e) (by simp only[MV,hH];exact⟨e,he,rfl⟩) hb
  have this:fi.getD (pos e.on p 0) false=true:=this
  have KC:pos e.on p 0<ops.size:=by
   by_cases h:pos e.on p 0<ops.size
   ·exact h
   ·rw[aP,dif_neg (by omega)]at this;cases this
  rw[<-h3 _ (Zgl hp KC)];exact this
 intro fuel
 induction fuel with
 |zero=>
  intro listed fi a w h1 h2 h3 h
  refine⟨?_,h.2⟩
  cases hr:Region.ready .any ops listed with
  |nil=>rfl
  |cons i l=>
   have:=(up listed fi i h1 h2 h3 (by rw[hr];simp)).2
   rw[h.1]at this;cases this
 |succ fuel ih=>
  intro listed fi a w h1 h2 h3 h
  refine⟨λhe=>h.1 ?_,λi hi=>?_⟩
  ·cases hr:Region.ready .any (ny p ops) fi with
   |nil=>rfl
   |cons k l=>
    obtain⟨i,hi⟩:=down listed fi k h1 h2 h3 (by rw[hr];simp)
    rw[he]at hi;cases hi
  ·obtain⟨cq,iJ⟩:=up listed fi i h1 h2 h3 hi
   refine zw hp cq (λa' w' hk=>ih _ _ a' w' (by simpa using h1) (by simpa using h2) (λk hk=>?_) hk) (h.2 _ iJ)
   have hpi:=(HV hp cq)
   have BC:=(HV hp hk)
   have gs:∀(A:Array Bool) (x y:Nat),x<A.size->(A.setIfInBounds x true).getD y false=if x=y then true else A.getD y false:=λA x y hx=>by
    simp only[aF,Array.getElem?_setIfInBounds]
    split
    ·rename_i e;subst e;simp[hx]
    ·rfl
   rw[gs _ _ _ (by omega),gs _ _ _ (by omega)]
   by_cases e:i=k
   ·subst e;simp
   ·have gl:pos i p 0≠pos k p 0:=λe'=>by
     have:=BC.2
     rw[<-e',hpi.2]at this
     exact e (Option.some.inj this)
    rw[if_neg e,if_neg gl];exact h3 k hk
end
theorem Zks{ro:Option Nat}{P:Program}(hm:P.follows .mixedOrders=true){T:fj}{G:List bb}{N M id:Nat}{ops:Array Oper}{st:St}{Q:Ex->St->Prop}(hT:jF P T)(hG:j5 P G){p:List Nat}(hp:Vk p ops.size=true)(h:mf T G N M (ny p ops) (ny p ops).toList st λst=>cw (Rl G (ny p ops) st.env) (Q .normal st)):ub ro P N M (.region id ops true) st Q:=by
 intro c0 w0 c w a hs
 have hs:=hs.drew
 refine Qw1 hm ?_
 refine Zow hp ops.size _ (gN ops.size false) a _ (by simp) (by simp) (λi hi=>by simp[aP,(HV hp hi).1,hi]) ?_
 obtain⟨s,ks,val,h1,h2,h3,h4,h5,h6⟩:=Zf0 hT hG (ny p ops).toList 0 st (by simp) h
 have hc:Vi P G N M (ny p ops) s ks val:=⟨⟨λi o ho=>h3 i o (aT _) ho,λi o t ho=>h4 i o t (aT _) ho,λi o t ho=>h5 i o t (aT _) ho⟩,λi o ho=>h6 i o (aT _) ho⟩
 have fv:s (0+(ny p ops).toList.length)=s (ny p ops).size:=by simp
 rw[fv]at h2
 obtain⟨hd,h2⟩:=c9.1 h2
 have mj:=Qoc hp
 obtain⟨d,g1,g2,g3,g4⟩:=Nf G (ny p ops) _ 0 rfl (aT _)
 have hz:∀i,(gN (ny p ops).size false).getD i false=false:=λi=>by
  by_cases h:i<(ny p ops).size
  ·simp[aP,h]
  ·simp[aP,h]
 rw[<-mj]
 refine qw hc hd (Q:=λe a' w'=>∃ex jC c',mX e=some ex/\Q ex jC/\ft N M c0 w0 c' w' jC a') (λc w a jn=>⟨_,_,c,rfl,h2,jn⟩) (ny p ops).size _ a _ 0 d (by simp) (Wb _ _)
  ⟨g1,g2,λi hi=>by omega,g3,g4,λj hj=>by simp[hz]at hj,hs.size,hs.defers,hs.gb,hs.gq,c,λ_=>0,hs.mem,λr=>?_,λt _ _=>?_,hs.reach,λi _ hl=>by simp[hz]at hl,λi j _ _ hl=>by simp[hz]at hl⟩
 ·rw[Sr (λi _=>hz _),h1];exact hs.rows r
 ·rw[Sq (λi _=>hz _),h1];exact hs.env t
theorem yw{P:Program}(hm:P.follows .mixedOrders=true):sj P:=by
 intro ro T G N M id ops st Q hT hG h
 unfold u5 at h
 split at h
 ·rename_i hd
  exact za hm ro T G N M id ops st Q hT hG hd h
 ·obtain⟨h1,h2⟩:=c9.1 h
  exact Zks hm hT hG h1 h2
