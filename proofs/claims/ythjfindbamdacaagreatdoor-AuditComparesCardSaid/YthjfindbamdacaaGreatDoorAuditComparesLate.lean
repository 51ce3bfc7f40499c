import Derived.Test.YthjfindbamdacaaGreatDoorAuditComparesDraw
open List renaming mem_cons_self->gW,getD->aK,getElem?_eq_none->aM,mem_of_getElem?->fX,mem_append_left->gQ,mem_append_right->gP,mem_filter->gY,mem_range->gZ
open Array renaming mem_toList_iff->gX,toArray_toList->bS,getElem?_eq_getElem->aJ,getElem?_setIfInBounds_ne->aQ,getD->aP,getD_eq_getD_getElem?->aF,getElem?_eq_none->cL,mem_map->hH,replicate->gN
open Option renaming bind_some->aL,map_some->aR,getD_some->aG
open Bool renaming or_eq_true->aI,false_eq_true->aN,not_eq_true'->aS
open Nat renaming lt_of_lt_of_le->bI,le_refl->aO,add_zero->bG,zero_le->aT
set_option linter.all false
namespace Go.GD
open Go
set_option linter.unusedSectionVars false
theorem Z7x{pl:Bool}{ty:pI}{d:D}{K:D->Prop}(h:uk pl ty d K):∃d',K d'/\∀K2:D->Prop,K2 d'->uk pl ty d K2:=by
 cases ty<;>simp only[uk]at h⊢
 ·exact⟨_,(c7.1 h).2,λK2 h2=>c7.2 ⟨(c7.1 h).1,h2⟩⟩
 ·exact⟨_,(c7.1 h).2,λK2 h2=>c7.2 ⟨(c7.1 h).1,h2⟩⟩
 ·exact⟨_,(c7.1 h).2,λK2 h2=>c7.2 ⟨(c7.1 h).1,h2⟩⟩
 ·cases pl
  ·simp only[D.cf]at h⊢
   exact⟨_,(c7.1 h).2,λK2 h2=>c7.2 ⟨(c7.1 h).1,h2⟩⟩
  ·exact⟨_,(c7.1 h).2,λK2 h2=>c7.2 ⟨(c7.1 h).1,h2⟩⟩
 ·cases pl
  ·simp only[D.cf]at h⊢
   exact⟨_,(c7.1 h).2,λK2 h2=>c7.2 ⟨(c7.1 h).1,h2⟩⟩
  ·cases d<;>first|exact h.elim|exact⟨_,h,λK2 h2=>h2⟩
theorem YG{pl:Bool}{e:List D}:∀{c9:List pI} {off:Nat} {K:List D->Prop},I6 pl e c9 off K->∃ds,K ds/\∀K2:List D->Prop,K2 ds->I6 pl e c9 off K2
 |[],off,K,h=>⟨[],h,λK2 h2=>h2⟩
 |t::ts,off,K,h=>by
  simp only[I6]at h⊢
  obtain⟨d,hd,h1⟩:=Z7x h
  obtain⟨ds,DM,h2⟩:=YG hd
  exact⟨_,DM,λK2 hk=>h1 _ (h2 _ hk)⟩
theorem Uf{pl:Bool}{ti:TI}{e:List D}{off:Nat}{K:D->Prop}(h:um pl ti e off K):∃d,K d/\∀K2:D->Prop,K2 d->um pl ti e off K2:=by
 unfold um at h
 cases hg:ti.kind.isAgg with
 |true=>
  simp only[hg]at h
  obtain⟨ds,h1,h2⟩:=YG h
  exact⟨_,h1,λK2 hk=>by unfold um;simp only[hg];exact h2 _ hk⟩
 |false=>
  simp only[hg]at h
  split at h
  ·rename_i y hy
   obtain⟨d,h1,h2⟩:=Z7x h
   exact⟨_,h1,λK2 hk=>by unfold um;simp only[hg,hy];exact h2 _ hk⟩
  ·exact h.elim
theorem Zeu{T:ff}{t:TypeId}{r i off:Nat}{R:Rows}{K:D->Rows->Prop}(h:wC T t (.ptr r i off) R K):
 ∃d,K d R/\(∃row,R.getD r none=some row)/\∀R2:Rows,R2.getD r none=R.getD r none->wC T t (.ptr r i off) R2 λd' R'=>d'=d/\R'=R2:=by
 unfold wC at h
 cases hT:T.get t with
 |none=>simp only[hT]at h
 |some ti=>
  simp only[hT]at h
  cases hr:R.getD r none with
  |none=>simp only[hr]at h
  |some row=>
   obtain⟨box,ty,sz,es⟩:=row
   simp only[hr,c7]at h
   obtain⟨h0,h⟩:=h
   obtain⟨d,h1,h2⟩:=Uf h
   refine⟨d,h1,?_,λR2 ui=>?_⟩
   ·exact⟨_,rfl⟩
   ·unfold wC
    simp only[hT,ui,c7]
    exact⟨h0,h2 _ (by simp)⟩
theorem Znp{d:D}(h:o9 d=true)(ks:List Nat):d.gd ks=d.ee ks:=by cases d<;>first|rfl|cases h
theorem Zne{pl:Bool}{ty:pI}{d d':D}{ks:List Nat}(h:uk pl ty d λx=>x=d')(hd:d'.ee ks=d'):d.ee ks=d:=by
 cases ty<;>simp only[uk]at h
 ·cases d<;>first|rfl|(simp[D.isInt,c7]at h;done)
 ·cases d<;>first|rfl|(simp[D.isBool,c7]at h;done)
 ·cases d<;>first|rfl|(simp[D.isStr,c7]at h;done)
 ·cases pl
  ·simp only[D.cf,c7]at h
   rw[h.2];exact hd
  ·simp only[c7]at h
   cases d<;>first|rfl|(simp[D.Fa,c7]at h;done)
 ·cases pl
  ·simp only[D.cf,c7]at h
   rw[h.2];exact hd
  ·cases d<;>first|exact h.elim|rfl
theorem Z66{ks:List Nat}:∀{l:List D} {j:Nat},(D.j9 ks l).getD j .dead=(l.getD j .dead).ee ks
 |[],_=>rfl
 |_::_,0=>rfl
 |_::l,j+1=>Z66 (l:=l) (j:=j)
theorem Zgn(ks:List Nat)(row:Row)(i off:Nat):((row.kill ks).es.get i).getD off .dead=(row.es.get i).getD off .dead\/((row.kill ks).es.get i).getD off .dead=((row.es.get i).getD off .dead).ee ks:=by
 unfold Row.kill
 split
 ·rename_i ty sz e
  cases i with
  |zero=>exact .inr Z66
  |succ i=>exact .inl rfl
 ·exact .inl rfl
theorem Zi5{pl:Bool}{ti:TI}{row:Row}{i off:Nat}{v:D}{ks:List Nat}(h:um pl ti (row.es.get i) off λx=>x=v)(hv:o9 v=true)(hk:v.ee ks=v):um pl ti ((row.kill ks).es.get i) off λx=>x=v:=by
 unfold um at h⊢
 cases hg:ti.kind.isAgg with
 |true=>
  simp only[hg]at h
  obtain⟨ds,h1,_⟩:=YG h
  rw[<-h1]at hv;cases hv
 |false=>
  simp only[hg]at h⊢
  split at h
  ·rename_i y hy
   have e:((row.kill ks).es.get i).getD off .dead=(row.es.get i).getD off .dead:=by
    rcases Zgn ks row i off with e|e
    ·exact e
    ·rw[e];exact Zne h hk
   rw[e];exact h
  ·exact h.elim
theorem Qy1{pl:Bool}{ti:TI}{i off:Nat}{v:D}(hv:o9 v=true):∀{L:List (List Nat)} {row:Row},(∀kk∈L,v.ee kk=v)->(um pl ti (row.es.get i) off λx=>x=v)->um pl ti ((L.foldl (λr k=>Row.kill k r) row).es.get i) off λx=>x=v
 |[],_,_,h=>h
 |k::L,row,hL,h=>Qy1 hv (L:=L) (row:=row.kill k) (λkk hk=>hL kk (List.mem_cons_of_mem _ hk)) (Zi5 h hv (hL k (gW ..)))
theorem Z2l:∀(L:List (List Nat)) (row:Row),(L.foldl (λr k=>Row.kill k r) row).box=row.box/\(L.foldl (λr k=>Row.kill k r) row).sz=row.sz
 |[],_=>⟨rfl,rfl⟩
 |k::L,row=>by
  obtain⟨k1,k2,k3,k4⟩:=uT k row
  obtain⟨h1,h2⟩:=Z2l L (row.kill k)
  exact⟨h1.trans k1,h2.trans k3⟩
theorem Zn4{T:ff}{t:TypeId}{r i off:Nat}{R R2:Rows}{v:D}{row:Row}{L:List (List Nat)}(h:wC T t (.ptr r i off) R λd' R'=>d'=v/\R'=R)(hv:o9 v=true)(hL:∀kk∈L,v.ee kk=v)(hr:R.getD r none=some row)(ui:R2.getD r none=some (L.foldl (λr k=>Row.kill k r) row)):
 wC T t (.ptr r i off) R2 λd' R'=>d'=v/\R'=R2:=by
 obtain⟨s1,s2⟩:=Z2l L row
 unfold wC at h⊢
 cases hT:T.get t with
 |none=>simp only[hT]at h
 |some ti=>
  simp only[hT,hr]at h
  simp only[hT,ui]
  obtain⟨box,ty,sz,es⟩:=row
  simp only at h s1 s2
  generalize cb:L.foldl (λr k=>Row.kill k r) (⟨box,ty,sz,es⟩:Row)=jr at s1 s2⊢
  obtain⟨PL,ty2,sz2,es2⟩:=jr
  simp only at s1 s2⊢
  subst s1;subst s2
  simp only[c7]at h⊢
  refine⟨h.1,?_⟩
  have hx:um (!PL) ti (es.get i) off λx=>x=v:=by
   obtain⟨d,h1,h2⟩:=Uf h.2
   exact h2 _ h1.1
  have:=Qy1 (L:=L) (row:=⟨PL,ty,sz2,es⟩) hv hL hx
  rw[cb]at this
  obtain⟨d,h1,h2⟩:=Uf this
  exact h2 _ ⟨h1,by first|trivial|rfl⟩
theorem Z8l{T:ff}{t:TypeId}{r i off:Nat}{d:D}{R:Rows}{K:D->Rows->Prop}(h:G9 T t (.ptr r i off) d R K):
 ∃R',K .dead R'/\(∀r',r'≠r->R'.getD r' none=R.getD r' none)/\G9 T t (.ptr r i off) d R λd' R2=>d'=.dead/\R2=R':=by
 unfold G9 at h
 cases hT:T.get t with
 |none=>simp only[hT]at h
 |some ti=>
  simp only[hT]at h
  cases hr:R.getD r none with
  |none=>simp only[hr]at h
  |some row=>
   obtain⟨box,ty,sz,es⟩:=row
   simp only[hr,c7]at h
   obtain⟨h0,h⟩:=h
   have pL:∀(x:Option Row) (r':Nat),r'≠r->(R.set r x).getD r' none=R.getD r' none:=λx r' h=>by
    simp only[aK,List.getElem?_set_ne (Ne.symm h)]
   cases box with
   |true=>
    simp only[D.ez,mO]at h
    refine⟨_,h,pL _,?_⟩
    unfold G9
    simp only[hT,hr,c7,D.ez,mO]
    exact⟨h0,by simp⟩
   |false=>
    simp only[mO]at h
    refine⟨_,h.2,pL _,?_⟩
    unfold G9
    simp only[hT,hr,c7,mO]
    exact⟨h0,h.1,by simp⟩
structure Ug(P:Program)(o:Oper)(row:Row)(arr:Array Value):Prop where
 box:row.box=true
 sz:0<row.sz
 cells:∃e,row.es=.gen [e]/\e.length=row.sz/\arr.size=row.sz/\∀(c:Ctx) (w:World),kA c w e arr 0
 run:∀(ev:Operand->Value) (w:World),(execOp ev o).run P w=.ok (.value (.pointer (some ⟨w.heap.size,0,none⟩))) (w.alloc (.cells arr row.ty))
theorem Zn9{P:Program}{T:ff}(hT:jt P T){o:Oper}{t:TypeId}(ho:o.op=.alloc t){k:TK}{sz b:Nat}{cs:List pI}{ds:List D}{e:Bool}(ht:T.get t=some ⟨k,sz,b,cs,some ds,e⟩)(h0:0<sz)(hl:ds.length=sz):∃arr,Ug P o ⟨true,t,sz,.gen [ds]⟩ arr:=by
 obtain⟨i,u,hi,hu,hz,_,_,_,hzero⟩:=I0 hT ht
 have hb:∀(c:Ctx) (w:World),TY c w ⟨true,t,sz,.gen [ds]⟩ u.cells:=λc w=>Yk h0 hl (Ja hz c w)
 have fp:u.cells.size=sz:=by have:=O6 hz;simp at this;omega
 refine⟨u.cells,⟨rfl,h0,⟨ds,rfl,hl,fp,λc w=>?_⟩,λev w=>?_⟩⟩
 ·have:=(hb c w).2
  simp only[if_true]at this
  obtain⟨e',h1,_,_,h4⟩:=this
  cases h1;exact h4
 ·simp only[execOp,ho,Instr.alloc,Sem.run_bind,hzero,Result.andThen_ok,Yl,Sem.run_pure]
structure Jp(P:Program)(G:List ba)(o:Oper)(env:List (Nat×D))(R:Rows)(ks:List Nat)(val:D)(R':Rows):Prop where
 ld:∀t a r ii off,o.guard=none->o.op=.load t (.tmp a)->look env a=.ptr r ii off->ks=[]/\R'=R/\(∃row,R.getD r none=some row)/\(∀(ev:Operand->D) (R2:Rows),ev (.tmp a)=.ptr r ii off->R2.getD r none=R.getD r none->pn P o ev R2 val R2)/\∀(ev:Operand->D) (R2:Rows) row (L:List (List Nat)),o9 val=true->(∀kk∈L,val.ee kk=val)->ev (.tmp a)=.ptr r ii off->R.getD r none=some row->R2.getD r none=some (L.foldl (λr k=>Row.kill k r) row)->pn P o ev R2 val R2
 st:∀t b x r ii off,o.guard=none->o.op=.store t (.tmp b) x->look env b=.ptr r ii off->ks=[]/\∀r',r'≠r->R'.getD r' none=R.getD r' none
 pu:∀q,o.guard=none->lD env o.op=some q->ks=[]/\R'=R/\∀(ev:Operand->D) (R2:Rows),(∀x∈o.op.operands,ev x=bo env x)->pn P o ev R2 val R2
 cl:∀f args c9,o.guard=none->o.op=.call ⟨.value (.func f),args,c9⟩->(oJ G f=none/\Z1 G f=false)->ks=[]
 al:∀t,o.guard=none->o.op=.alloc t->ks=[]/\∃row arr,Ug P o row arr/\val=.ptr R.length 0 0/\R'=R++[some row]
 ap2:∀args c9,o.guard=none->o.op=.call ⟨.builtin .append,args,c9⟩->∀r row,R.getD r none=some row->bq r ks=false->R'.getD r none=some (row.kill ks)
 ap:∀args c9 x l,o.guard=none->o.op=.call ⟨.builtin .append,args,c9⟩->args.toList=.tmp x::l->Jq (look env x)=true->ks=[]/\∀r row,R.getD r none=some row->R'.getD r none=some row
theorem AE{a:Nat}:∀{l:List Operand},a∈mn l↔Operand.tmp a∈l
 |[]=>by simp[mn]
 |x::l=>by cases x<;>simp[mn,AE (l:=l)]
theorem Zj6{op:Op}{q:List Nat}(h:pb op=some q){a:Nat}(ha:Operand.tmp a∈op.operands):a∈q:=by
 unfold pb at h
 split at h
 ·cases h;rw[AE];simpa[Op.operands]using ha
 ·cases h;rw[AE];simpa[Op.operands]using ha
 ·cases h;rw[AE];simpa[Op.operands]using ha
 ·cases h;rw[AE];simpa[Op.operands]using ha
 ·cases h;rw[AE];simpa[Op.operands]using ha
 ·cases h;rw[AE];simpa[Op.operands]using ha
 ·cases h
theorem Z8s{G:List ba}{op:Op}{q:List Nat}(h:pb op=some q):rJ G op=false/\FG op=false/\(∀t x,op≠.load t x)/\(∀t x y,op≠.store t x y)/\∀c,op≠.call c:=by
 unfold pb at h
 split at h<;>first|exact⟨rfl,rfl,λ_ _ h=>(by cases h),λ_ _ _ h=>(by cases h),λ_ h=>(by cases h)⟩|cases h
theorem xS{T:ff}{op:Op}{q:List Nat}(hq:pb op=some q){ev:Operand->D}{R:Rows}{K:D->Rows->Prop}(h:gu T op ev R K):
 ∃val,K val R/\∀(ib:Operand->D) (R2:Rows),(∀x∈op.operands,ib x=ev x)->gu T op ib R2 λd R'=>d=val/\R'=R2:=by
 unfold pb at hq
 split at hq
 ·rename_i x
  simp only[gu,D.cf]at h⊢
  exact⟨_,h,λib R2 he=>⟨he x (by simp[Op.operands]),trivial⟩⟩
 ·rename_i x
  simp only[gu,D.cf]at h⊢
  exact⟨_,h,λib R2 he=>⟨he x (by simp[Op.operands]),trivial⟩⟩
 ·rename_i x n
  simp only[gu]at h⊢
  split at h
  ·rename_i ds DM
   simp only[c7,D.cf]at h
   refine⟨_,h.2,λib R2 he=>?_⟩
   rw[he x (by simp[Op.operands]),DM]
   simp only[c7,D.cf]
   exact⟨h.1,trivial,trivial⟩
  ·exact h.elim
 ·rename_i x
  simp only[gu]at h⊢
  split at h
  ·rename_i hx
   refine⟨_,h,λib R2 he=>?_⟩
   rw[he x (by simp[Op.operands]),hx]
   simp
  ·rename_i hx
   refine⟨_,h,λib R2 he=>?_⟩
   rw[he x (by simp[Op.operands]),hx]
   simp
  ·exact h.elim
 ·rename_i t x f
  simp only[gu]at h⊢
  split at h
  ·simp only[c7]at h⊢
   obtain⟨h0,h⟩:=h
   split at h
   ·rename_i hx
    refine⟨_,h,λib R2 he=>⟨h0,?_⟩⟩
    rw[he x (by simp[Op.operands]),hx]
    simp
   ·rename_i hx
    refine⟨_,h,λib R2 he=>⟨h0,?_⟩⟩
    rw[he x (by simp[Op.operands]),hx]
    simp
   ·exact h.elim
  ·exact h.elim
 ·rename_i t len parts
  simp only[gu]at h⊢
  obtain⟨val,h1,h2⟩:=Zj1 h
  exact⟨val,h1,λib R2 he=>h2 ib R2 λp hp=>he p.2 (by simp[Op.operands];exact⟨p.1,by simpa using hp⟩)⟩
 ·cases hq
theorem yu{T:ff}{G:List ba}{N M:Nat}{o:Oper}{q:List Nat}(hq:pb o.op=some q){st:St}{K:St->Prop}(h:lB T G N M o st K):gu T o.op (bo st.env) st.rows λd R=>st.put N o.dst d R K:=by
 obtain⟨dst,op,type,pos,after,guard⟩:=o
 simp only at hq⊢
 unfold pb at hq
 split at hq<;>first|exact h|cases hq
theorem xat{T:ff}{op:BinOp}{t:TypeId}{x y:D}{K:D->Prop}(h:sB T op t x y K):∃val,K val/\∀K',K' val->sB T op t x y K':=by
 unfold sB at h⊢
 split at h
 ·split at h
  ·simp only[c7]at h⊢;exact⟨_,h.2,λK' h'=>⟨h.1,h'⟩⟩
  ·simp only[c7]at h⊢;exact⟨_,h.2,λK' h'=>⟨h.1,h'⟩⟩
  ·rename_i n1 n2
   simp only[c7]at h⊢
   obtain⟨h1,h⟩:=h
   unfold TV at h⊢
   split at h<;>first|exact⟨_,h,λK' h'=>⟨h1,h'⟩⟩|(simp only[c7]at h⊢;exact⟨_,h.2,λK' h'=>⟨h1,h.1,h'⟩⟩)|exact h.elim
 ·split at h<;>first|exact⟨_,h,λK' h'=>h'⟩|(simp only[c7]at h⊢;exact⟨_,h.2,λK' h'=>⟨h.1,h'⟩⟩)|exact h.elim
 ·split at h
  ·split at h<;>first|exact⟨_,h,λK' h'=>h'⟩|exact h.elim
  ·exact h.elim
 ·split at h
  ·simp only[c7]at h⊢
   obtain⟨h1,h⟩:=h
   split at h<;>first|exact⟨_,h,λK' h'=>⟨h1,h'⟩⟩|exact h.elim
  ·exact h.elim
 ·exact h.elim
theorem zS{T:ff}{s d:TypeId}{x:D}{K:D->Prop}(h:LW T s d x K):∃val,K val/\∀K',K' val->LW T s d x K':=by
 unfold LW at h⊢
 split at h
 ·split at h
  ·exact⟨_,h,λK' h'=>h'⟩
  ·exact h.elim
 ·split at h
  ·exact⟨_,h,λK' h'=>h'⟩
  ·exact h.elim
 ·exact h.elim
theorem YH{place:Nat->Option (Nat×Nat)}{ev:Operand->D}:∀{parts:List (Nat×Operand)} {cs:List D} {K:List D->Prop},Fg place ev parts cs K->∃l,K l/\∀(ib:Operand->D) (K':List D->Prop),(∀p∈parts,ib p.2=ev p.2)->K' l->Fg place ib parts cs K'
 |[],cs,K,h=>by
  simp only[Fg,D.ez]at h⊢
  exact⟨_,h,λib K' _ h'=>h'⟩
 |(i,x)::ps,cs,K,h=>by
  simp only[Fg]at h⊢
  split at h
  ·rename_i off n hp
   simp only[c7]at h
   obtain⟨h1,h⟩:=h
   obtain⟨l,g1,g2⟩:=YH h
   refine⟨l,g1,λib K' he h'=>?_⟩
   have hx:=he (i,x) (by simp)
   simp only at hx
   simp only[hx,c7]
   exact⟨h1,g2 ib K' (λp hpp=>he p (by simp[hpp])) h'⟩
  ·exact h.elim
theorem vu{T:ff}{t:TypeId}{parts:List (Nat×Operand)}{ev:Operand->D}{R:Rows}{K:D->Rows->Prop}(h:LY T t parts ev R K):∃val,K val R/\∀(ib:Operand->D) (R2:Rows),(∀p∈parts,ib p.2=ev p.2)->LY T t parts ib R2 λd R'=>d=val/\R'=R2:=by
 unfold LY at h⊢
 split at h
 ·simp only[c7]at h⊢
  obtain⟨h1,h⟩:=h
  obtain⟨l,g1,g2⟩:=YH h
  exact⟨_,g1,λib R2 he=>⟨h1,g2 ib _ he (by simp)⟩⟩
 ·simp only[c7]at h⊢
  obtain⟨h1,h⟩:=h
  obtain⟨l,g1,g2⟩:=YH h
  exact⟨_,g1,λib R2 he=>⟨h1,g2 ib _ he (by simp)⟩⟩
 ·exact h.elim
theorem YI{T:ff}{t:TypeId}{str:List UInt8}{lo hi:Option Operand}{ev:Operand->D}{R:Rows}{K:D->Rows->Prop}(h:LX T t (.str str) lo hi ev R K):∃val,K val R/\∀(ib:Operand->D) (R2:Rows),(∀y,lo=some y->ib y=ev y)->(∀y,hi=some y->ib y=ev y)->LX T t (.str str) lo hi ib R2 λd R'=>d=val/\R'=R2:=by
 have PM:∀(x:Option Operand) (n:Int) (ib:Operand->D),(∀y,x=some y->ib y=ev y)->rC x ib n=rC x ev n:=λx n ib he=>by
  unfold rC
  cases x with
  |none=>rfl
  |some y=>simp only[he y rfl]
 unfold LX at h⊢
 split at h
 ·rename_i x1 x2 x3 x4 x5 ht
  simp only at h
  split at h
  ·rename_i l hh e1 e2
   simp only[c7]at h
   refine⟨_,h.2,λib R2 he1 he2=>?_⟩
   simp only[PM _ _ ib he1,PM _ _ ib he2,e1,e2,c7]
   exact⟨h.1,trivial,trivial⟩
  ·exact h.elim
 ·simp only at h
 ·exact h.elim
 ·exact h.elim
theorem qv{T:ff}{env:List (Nat×D)}{op:Op}{q:List Nat}(hq:lD env op=some q){R:Rows}{K:D->Rows->Prop}(h:gu T op (bo env) R K):
    ∃val,K val R/\ ∀(ib:Operand->D) (R2:Rows),(∀x∈op.operands,ib x=bo env x)->gu T op ib R2 λd R'=>d=val/\R'=R2:=by
  unfold lD at hq
  split at hq
  . rename_i q' hp;exact xS hp h
  . split at hq
    . rename_i t parts hn
      simp only[gu]at h⊢
      obtain⟨val,g1,g2⟩:=vu h
      exact⟨val,g1,λib R2 he=>g2 ib R2 λp hp=>he p.2 (by simp [Op.operands];exact⟨p.1,by simpa using hp⟩)⟩
    . rename_i op' t x y ty hn
      simp only[gu]at h⊢
      obtain⟨val,g1,g2⟩:=xat h
      refine⟨val,g1,λib R2 he=> ?_⟩
      rw[he x (by simp [Op.operands]),he y (by simp [Op.operands])]
      exact g2 _ (by simp)
    . rename_i op' t x hn
      simp only[gu]at h⊢
      split at h
      all_goals first
        |exact h.elim
        | (rename_i hx
           refine⟨_,h,λib R2 he=> ?_⟩
           rw[he x (by simp [Op.operands]),hx]
           simp)
    . rename_i s d x hn
      simp only[gu]at h⊢
      obtain⟨val,g1,g2⟩:=zS h
      refine⟨val,g1,λib R2 he=> ?_⟩
      rw[he x (by simp [Op.operands])]
      exact g2 _ (by simp)
    . rename_i s x f hn
      simp only[gu]at h⊢
      split at h
      . split at h
        . rename_i cs ti hx ht
          simp only[c7]at h
          obtain⟨h1,h⟩:=h
          split at h
          . rename_i Cs
            simp only[D.ez]at h
            refine⟨_,h,λib R2 he=> ?_⟩
            simp only[he x (by simp [Op.operands]),hx,ht,c7,Cs,D.ez]
            exact⟨h1,trivial,trivial⟩
          . rename_i Cs
            simp only[c7,D.cf]at h
            refine⟨_,h.2,λib R2 he=> ?_⟩
            simp only[he x (by simp [Op.operands]),hx,ht,c7,Cs,D.cf]
            exact⟨h1,h.1,trivial,trivial⟩
        . exact h.elim
      . exact h.elim
    . rename_i t x y hn
      simp only[gu]at h⊢
      split at h
      . rename_i ht hx hy
        simp only[c7]at h
        refine⟨_,h.2,λib R2 he=> ?_⟩
        simp only[he x (by simp [Op.operands]),he y (by simp [Op.operands]),hx,hy,ht,c7]
        exact⟨h.1,trivial,trivial⟩
      . rename_i ht hx hy
        simp only[c7]at h
        obtain⟨h1,h⟩:=h
        split at h
        . rename_i wO
          refine⟨_,h.2,λib R2 he=> ?_⟩
          simp only[he x (by simp [Op.operands]),he y (by simp [Op.operands]),hx,hy,ht,c7,wO]
          exact⟨h1,h.1,trivial,trivial⟩
        . rename_i wO
          refine⟨_,h.2,λib R2 he=> ?_⟩
          simp only[he x (by simp [Op.operands]),he y (by simp [Op.operands]),hx,hy,ht,c7,wO]
          exact⟨h1,h.1,trivial,trivial⟩
        . exact h.elim
      . exact h.elim
    . rename_i t x y z hn
      split at hq
      . rename_i str hx
        simp only[gu,hx]at h⊢
        obtain⟨val,g1,g2⟩:=YI h
        refine⟨val,g1,λib R2 he=> ?_⟩
        rw[he x (by simp [Op.operands]),hx]
        exact g2 ib R2 (λu hu=>he u (by cases hu;simp [Op.operands])) (λu hu=>he u (by cases hu;simp [Op.operands]))
      . cases hq
    . rename_i t x y hn
      split at hq
      . rename_i str hx
        simp only[gu,hx]at h⊢
        obtain⟨val,g1,g2⟩:=YI h
        refine⟨val,g1,λib R2 he=> ?_⟩
        rw[he x (by simp [Op.operands]),hx]
        exact g2 ib R2 (λu hu=>he u (by cases hu;simp [Op.operands])) (λu hu=>he u (by cases hu))
      . cases hq
    . rename_i t x y hn
      split at hq
      . rename_i str hx
        simp only[gu,hx]at h⊢
        obtain⟨val,g1,g2⟩:=YI h
        refine⟨val,g1,λib R2 he=> ?_⟩
        rw[he x (by simp [Op.operands]),hx]
        exact g2 ib R2 (λu hu=>he u (by cases hu)) (λu hu=>he u (by cases hu;simp [Op.operands]))
      . cases hq
    . rename_i t x y hn
      split at hq
      . rename_i sz es fr hx
        simp only[gu,hx]at h⊢
        split at h
        . rename_i k n hy
          unfold TX at h⊢
          split at h
          . rename_i ht
            simp only[c7]at h
            refine⟨_,h.2,λib R2 he=> ?_⟩
            simp only[he x (by simp [Op.operands]),he y (by simp [Op.operands]),hx,hy,ht,c7]
            exact⟨h.1,trivial,trivial⟩
          . simp only[c7]at h
            exact h.2.elim
          . exact h.elim
        . exact h.elim
      . cases hq
    . rename_i t x hn
      split at hq
      . rename_i sz es i off hx
        simp only[gu,hx]at h⊢
        unfold wC at h⊢
        split at h
        . exact h.elim
        . rename_i ti ht
          simp only[c7]at h
          obtain⟨d,g1,g2⟩:=Uf h.2
          refine⟨d,g1,λib R2 he=> ?_⟩
          simp only[he x (by simp [Op.operands]),hx,ht,c7]
          exact⟨h.1,g2 _ (by simp)⟩
      . cases hq
    . rename_i args c9 hn
      split at hq
      . rename_i x ft
        have hxm:x∈(Op.call {callee:= .builtin .len,args:=args,argTypes:=c9}).operands:=by simp [Op.operands,Call.operands];rw[<-gX,ft];simp
        simp only[gu,ft]at h⊢
        split at h
        . rename_i y t e1 e2
          cases e1
          rw[e2]at*
          split at hq
          . rename_i str hx
            simp only[hx]at h⊢
            unfold sG at h⊢
            split at h
            . simp only at h
              exact⟨_,h,λib R2 he=>by simp only[he x hxm,hx];simp⟩
            . exact h.elim
            . exact h.elim
          . rename_i sz es fr hx
            simp only[hx]at h⊢
            unfold sG at h⊢
            split at h
            . exact h.elim
            . simp only at h
              exact⟨_,h,λib R2 he=>by simp only[he x hxm,hx];simp⟩
            . exact h.elim
          . cases hq
        . exact h.elim
      . cases hq
    . cases hq
theorem YJ{env:List (Nat×D)}{op:Op}{q:List Nat}(h:lD env op=some q){a:Nat}(ha:Operand.tmp a∈op.operands):a∈q:=by
 unfold lD at h
 split at h
 ·cases h;exact Zj6 (by assumption) ha
 ·split at h
  all_goals first
   |(cases h;done)
   |(cases h;rw[AE];simpa[Op.operands]using ha)
   |(split at h<;>first|(cases h;done)|(cases h;rw[AE];simpa[Op.operands]using ha))
   |skip
  split at h
  ·rename_i x hx
   have jx:Operand.tmp a=x:=by
    simp[Op.operands,Call.operands]at ha
    rw[<-gX,hx]at ha
    simpa using ha
   split at h<;>first|(cases h;done)|(cases h;rw[AE,jx];simp)
  ·cases h
theorem Z0f{G:List ba}{env:List (Nat×D)}{op:Op}{q:List Nat}(h:lD env op=some q):rJ G op=false/\FG op=false/\(∀t x y,op≠.store t x y)/\(∀f args c9,op≠.call ⟨.value (.func f),args,c9⟩)/\∀t,op≠.alloc t:=by
 unfold lD at h
 split at h
 ·rename_i q' hp
  obtain⟨h1,h2,h3,h4,h5⟩:=Z8s (G:=G) hp
  exact⟨h1,h2,h4,λ_ _ _=>h5 _,λt e=>by rw[e]at hp;cases hp⟩
 ·split at h<;>first|(cases h;done)|exact⟨rfl,rfl,λ_ _ _ h=>(by cases h),λ_ _ _ h=>(by cases h),λ_ h=>(by cases h)⟩
theorem Zly{T:ff}{G:List ba}{N M:Nat}{o:Oper}{q:List Nat}{st:St}(hq:lD st.env o.op=some q){K:St->Prop}(h:lB T G N M o st K):gu T o.op (bo st.env) st.rows λd R=>st.put N o.dst d R K:=by
  obtain⟨dst,op,type,pos,after,guard⟩:=o
  simp only at hq⊢
  unfold lD at hq
  split at hq
  . rename_i q' hp
    exact yu (o:=⟨dst,op,type,pos,after,guard⟩) hp h
  . split at hq
    all_goals first
      |(cases hq;done)
      |exact h
      |skip
    . rename_i op' t x y ty hn
      unfold lB at h
      simp only at h
      split at h
      . rename_i hx hy
        rw[hx]at hq;cases hq
      . exact h
    . rename_i s d x hn
      unfold lB at h
      simp only at h
      split at h
      . exfalso
        unfold uS at h
        split at h
        . split at h
          . rename_i he
            split at hq
            . rename_i hx;rw[hx]at he;cases he
            . rename_i hx;rw[hx]at he;cases he
            . cases hq
          . exact h
        . exact h
      . exact h
def sL:D->Bool|.all _=>true|.int _ _=>true|.str _=>true|.bool _=>true|.sl _ _ _=>true|.ig _ _ _ _=>true|.ptr _ _ _=>true|.emp=>true|.dq=>true|_=>false
theorem Z9j{d:D}(h:Jq d=true):sL d=true:=by cases d<;>first|rfl|cases h
theorem YL{d:D}(h:Hk d=true):sL d=true:=by cases d<;>first|rfl|cases h
theorem Zic{ks:List Nat}{d p:D}(hp:sL p=true)(h:d.gd ks=p):d=p:=by
 subst h
 cases d with
 |all x=>simp only[D.gd,D.kill,D.ee]at hp⊢;cases hb:bq x ks<;>simp[hb,sL]at hp⊢
 |own x y z=>simp only[D.gd,D.kill,D.ee]at hp⊢;cases hb:bq x ks<;>simp[hb,sL]at hp
 |ptr x y z=>simp only[D.gd,D.kill,D.ee]at hp⊢;cases hb:bq x ks<;>simp[hb,sL]at hp⊢
 |pa x y z u v q=>simp only[D.gd,D.kill,D.ee]at hp⊢;cases hb:bq x ks<;>simp[hb,sL]at hp
 |cy x=>simp only[D.gd,D.kill,D.ee]at hp⊢;cases hb:bq x ks<;>simp[hb,sL]at hp
 |gb f cs=>simp only[D.gd,D.kill,D.ee]at hp⊢;cases hb:ny (oe cs) ks<;>simp[hb,sL]at hp
 |_=>first|rfl|simp[D.gd,D.kill,D.ee,sL]at hp
theorem Znb{env lN:List (Nat×D)}{op:Op}{q:List Nat}(h:lD env op=some q)(hb: ∀a∈q,sL (look env a)=true->look lN a=look env a):lD lN op=some q:=by
  have one: ∀(x:Operand),(∀a,x= .tmp a->a∈q)->sL (bo env x)=true->bo lN x=bo env x:=λx hx hs=>by
    cases x with
    |tmp a=>exact hb a (hx a rfl) hs
    |_=>rfl
  unfold lD at h⊢
  split at h
  . exact h
  . split at h
    all_goals first
      |(cases h;done)
      |exact h
      |skip
    all_goals
      split at h
      all_goals first
        |(cases h;done)
        | (rename_i hx
           cases h
           first
             |(have:=one _ (λa e=>by rw[AE,<-e];exact gW) (by rw[hx];rfl);rw[this,hx])
             |(have:=one _ (λa e=>by rw[AE,<-e];simp) (by rw[hx];rfl);rw[this,hx]))
        |skip
    split at h
    all_goals first
      |(cases h;done)
      | (rename_i hx
         cases h
         have:=one _ (λa e=>by rw[AE,<-e];exact gW) (by rw[hx];rfl);rw[this,hx])
theorem xv{T:ff}{M:Nat}{t tx:TypeId}{x y:D}{R:Rows}{K:List Nat->D->Rows->Prop}(h:LG T M t tx x y R K):
 LG T M t tx x y R λks d R'=>((Jq x=true->ks=[]/\∀r row,R.getD r none=some row->R'.getD r none=some row)/\∀r row,R.getD r none=some row->bq r ks=false->R'.getD r none=some (row.kill ks))/\K ks d R':=by
 have go:∀{e sz ly:Nat} {Jr:List Nat} {es ys:ak},(Jq x=true->Jr=[])->Ci e sz ly R Jr es ys K->Ci e sz ly R Jr es ys λks d R'=>((Jq x=true->ks=[]/\∀r row,R.getD r none=some row->R'.getD r none=some row)/\∀r row,R.getD r none=some row->bq r ks=false->R'.getD r none=some (row.kill ks))/\K ks d R':=by
  intro e sz ly Jr es ys hx h
  simp only[Ci,c7,mO]at h⊢
  have key:∀r row,R.getD r none=some row->bq r Jr=false->(rA Jr R 0++[some (⟨false,e,sz,es.app ys⟩:Row)]).getD r none=some (row.kill Jr):=λr row hr hm=>by
   have hl:r<R.length:=by
    by_cases hh:r<R.length
    ·exact hh
    ·simp only[aK,aM (show R.length<=r by omega)]at hr;cases hr
   rw[Qlu (by rw[IW];exact hl),O5,hr,Nat.zero_add,hm]
   simp
  refine⟨h.1,⟨λe=>⟨hx e,λr row hr=>?_⟩,key⟩,h.2⟩
  have:=key r row hr (by rw[hx e];rfl)
  rw[this,hx e,Z39]
 unfold LG at h⊢
 split at h
 ·split at h
  ·split at h
   ·rename_i jR
    simp only[c7]at h⊢
    refine⟨h.1,?_⟩
    have h:=h.2
    cases x<;>first|(exact h.elim;done)|(exact go (λ_=>rfl) h;done)|skip
    all_goals
     (try simp only at h⊢)
     split at h
     ·exact⟨h.1,go (λe=>by cases e) h.2⟩
     ·exact h.elim
   ·exact h.elim
  ·exact h.elim
 ·exact h.elim
theorem Zlk{P:Program}{T:ff}(hT:jt P T){G:List ba}(hG:jO P G){N M:Nat}{ops:Array Oper}{o:Oper}{l:List Oper}{st:St}{K:St->Prop}(h:lF T G N M ops (o::l) st K):
    ∃ks val R' iv,(∀t,look iv t=look (rH ks st.env) t)/\(∀t,o.dst=some t->t<N)/\nb P G M ops o st.env st.rows ks val R'/\lF T G N M ops l ⟨rI iv o.dst val,R'⟩ K/\Jp P G o st.env st.rows ks val R':=by
  by_cases hL: ∃t a r ii off,o.guard=none/\o.op= .load t (.tmp a)/\look st.env a= .ptr r ii off
  . obtain⟨t,a,r,ii,off,hg,ho,ha⟩:=hL
    simp only[lF,hg,lB,ho,gu,bo,ha]at h
    obtain⟨d,h1,h2,h3⟩:=Zeu h
    obtain⟨g1,g2⟩:=oL h1
    have hN: ∀(ev:Operand->D) (R2:Rows),ev (.tmp a)= .ptr r ii off->R2.getD r none=st.rows.getD r none->pn P o ev R2 d R2:=λev R2 he ui=>by
      have:=h3 R2 ui
      obtain⟨val,R',⟨rfl,rfl⟩,hO⟩:=MC hT o ev R2 (λd' R'=>d'=d/\R'=R2) (by simp only[ho,gu,he];exact this)
      simpa [ho,FG] using hO
    have hN2: ∀(ev:Operand->D) (R2:Rows) row (L:List (List Nat)),o9 d=true->(∀kk∈L,d.ee kk=d)->ev (.tmp a)= .ptr r ii off->st.rows.getD r none=some row->R2.getD r none=some (L.foldl (λr k=>Row.kill k r) row)->pn P o ev R2 d R2:=λev R2 row L hd hL he hr ui=>by
      have:=Zn4 (h3 st.rows rfl) hd hL hr ui
      obtain⟨val,R',⟨rfl,rfl⟩,hO⟩:=MC hT o ev R2 (λd' R'=>d'=d/\R'=R2) (by simp only[ho,gu,he];exact this)
      simpa [ho,FG] using hO
    refine⟨[],d,st.rows,st.env,λt=>oH.symm,g1,?_,g2,λt' a' r' lK iK _ iZ jx=> ?_,λt' b x r' lK iK _ iZ=> ?_,λq _ hq=> ?_,λf args c9 _ hf _=>by simp [ho]at hf,λt' _ hf=>by simp [ho]at hf,λargs c9 _ hf=>by simp [ho]at hf,λargs c9 x' l' _ hf=>by simp [ho]at hf⟩
    . unfold nb
      simp only[hg]
      exact Bs (by rw[ho];rfl) (hN _ _ (by simp [bo,ha]) rfl)
    . rw[ho]at iZ;cases iZ
      rw[ha]at jx;cases jx
      exact⟨rfl,rfl,h2,hN,hN2⟩
    . rw[ho]at iZ;cases iZ
    . rw[ho]at hq;simp [lD,pb,bo,ha]at hq
  . by_cases hS : ∃t b x r ii off,o.guard=none/\o.op= .store t (.tmp b) x/\look st.env b= .ptr r ii off
    . obtain⟨t,b,x,r,ii,off,hg,ho,hb⟩:=hS
      simp only[lF,hg,lB,ho,gu]at h
      rw[show bo st.env (.tmp b)= .ptr r ii off by simp [bo,hb]]at h
      obtain⟨R',h1,h2,h3⟩:=Z8l h
      obtain⟨g1,g2⟩:=oL h1
      obtain⟨val,R2,⟨rfl,rfl⟩,hO⟩:=MC hT o (bo st.env) st.rows (λd' R2=>d'= .dead/\R2=R') (by simp only[ho,gu];rw[show bo st.env (.tmp b)= .ptr r ii off by simp [bo,hb]];exact h3)
      refine⟨[], .dead,R2,st.env,λt=>oH.symm,g1,?_,g2,λt' a' r' lK iK _ iZ=> ?_,λt' b' x' r' lK iK _ iZ s7=> ?_,λq _ hq=> ?_,λf args c9 _ hf _=>by simp [ho]at hf,λt' _ hf=>by simp [ho]at hf,λargs c9 _ hf=>by simp [ho]at hf,λargs c9 x' l' _ hf=>by simp [ho]at hf⟩
      . unfold nb
        simp only[hg]
        have hO':Ee P o (bo st.env) st.rows .dead R2:=by simpa [ho,FG] using hO
        exact Bt (by rw[ho];rfl) (λk hk=>by simp [bq]at hk) hO'.toK
      . rw[ho]at iZ;cases iZ
      . rw[ho]at iZ;cases iZ
        rw[hb]at s7;cases s7
        exact⟨rfl,h2⟩
      . rw[ho]at hq;cases hq
    . by_cases hP : ∃q,o.guard=none/\lD st.env o.op=some q
      . obtain⟨q,hg,hq⟩:=hP
        simp only[lF,hg]at h
        have rj:=Zly hq h
        obtain⟨val,YM,YN⟩:=qv hq rj
        obtain⟨hW,hS',Mq,hnc,hna⟩:=Z0f (G:=G) hq
        have hN: ∀(ev:Operand->D) (R2:Rows),(∀x∈o.op.operands,ev x=bo st.env x)->pn P o ev R2 val R2:=λev R2 he=>by
          obtain⟨Jao,R',⟨rfl,rfl⟩,hO⟩:=MC hT o ev R2 _ (YN ev R2 he)
          simpa [hS'] using hO
        obtain⟨g1,g2⟩:=oL YM
        refine⟨[],val,st.rows,st.env,λt=>oH.symm,g1,?_,g2,λt' a' r' lK iK Sc iZ jx=>(hL ⟨t',a',r',lK,iK,Sc,iZ,jx⟩).elim,λt' b' x' r' lK iK _ iZ=>(Mq _ _ _ iZ).elim,λq' _ Fo=>⟨rfl,rfl,hN⟩,λf args c9 _ hf _=>(hnc _ _ _ hf).elim,λt' _ hf=>(hna _ hf).elim,λargs c9 _ hf=>by rw[hf]at hq;simp [lD,pb]at hq,λargs c9 x' l' _ hf=>by rw[hf]at hq;simp [lD,pb]at hq⟩
        unfold nb
        simp only[hg]
        exact Bs hW (hN _ _ (λ_ _=>rfl))
      . by_cases hC: ∃f args c9,o.guard=none/\o.op= .call ⟨.value (.func f),args,c9⟩/\(oJ G f=none/\Z1 G f=false)
        . obtain⟨f,args,c9,hg,ho,lz,Dg⟩:=hC
          obtain⟨dst,op,type,pos,after,guard⟩:=o
          simp only at hg ho
          subst hg;subst ho
          simp only[lF,lB,lz,Dg]at h
          have HL: ∀x,oA G f=some x->x.oM=false:=λx hx=>by simpa [Z1,hx] using Dg
          obtain⟨val,R',x,hK,hx,hO,hN⟩:=Vv (dst:=dst) (type:=type) (pos':=pos) (after:=after) (guard:=none) (c9:=c9) hG lz h
          obtain⟨g1,g2⟩:=oL hK
          refine⟨[],_,_,st.env,λt=>oH.symm,g1,?_,g2,λt' a' r' lK iK _ iZ=>(by cases iZ),λt' b' x' r' lK iK _ iZ=>(by cases iZ),λq' _ Fo=>(by cases Fo),λ_ _ _ _ _ _=>rfl,λt' _ hf=>(by cases hf),λargs c9 _ hf=>(by cases hf),λargs c9 x' l' _ hf=>(by cases hf)⟩
          unfold nb
          cases hr:x.refs with
          |nil=>exact Bs (by simp only[rJ,hx,hr,HL x hx]) (hN hr)
          |cons b bs=>exact Bt (by simp only[rJ,hx,hr]) (λk hk=>by simp [bq]at hk) hO.toK
        . by_cases hAl: ∃t,o.guard=none/\o.op= .alloc t
          . obtain⟨t,hg,ho⟩:=hAl
            obtain⟨dst,op,type,pos,after,guard⟩:=o
            simp only at hg ho
            subst hg;subst ho
            simp only[lF,lB,gu]at h
            split at h
            . rename_i ht
              simp only[c7,aE,MF]at h
              obtain⟨⟨h0,hl⟩,h⟩:=h
              obtain⟨g1,g2⟩:=oL h
              obtain⟨arr,hA⟩:=Zn9 (o:=⟨dst, .alloc t,type,pos,after,none⟩) hT rfl ht (lE h0) (bE hl)
              refine⟨[],_,_,st.env,λt=>oH.symm,g1,?_,g2,λt' a' r' lK iK _ iZ=>(by cases iZ),λt' b' x' r' lK iK _ iZ=>(by cases iZ),λq' _ Fo=>(by cases Fo),λ_ _ _ _ hf=>(by cases hf),λt' _ hf=>⟨rfl,_,arr,hA,rfl,rfl⟩,λargs c9 _ hf=>(by cases hf),λargs c9 x' l' _ hf=>(by cases hf)⟩
              unfold nb
              exact Bs rfl (TN λc w a hm RB eg=>⟨_,rfl,Zjr hT ht (lE h0) (bE hl) st.rows.length c w⟩)
            . exact h.elim
          by_cases YO: ∃args c9,o.guard=none/\o.op= .call ⟨.builtin .append,args,c9⟩
          . obtain⟨args,c9,hg,ho⟩:=YO
            obtain⟨dst,op,type,pos,after,guard⟩:=o
            simp only at hg ho
            subst hg;subst ho
            simp only[lF,lB]at h
            split at h
            . rename_i x y t tx nm ht
              have Js:args= #[x,y]:=by rw[<-bS (xs:=args),nm]
              have tN:c9= #[t,tx]:=by rw[<-bS (xs:=c9),ht]
              subst Js;subst tN
              have h':=xv h
              obtain⟨ks,R',⟨⟨YP,Cl⟩,hK⟩,hM,hr⟩:=Zkj (ty:=type) hT h'
              rw[HK]at hK
              obtain⟨h1,h2⟩:=oL hK
              refine⟨ks,_,_,_,λt=>rfl,h1,?_,h2,λt' a' r' lK iK _ iZ=>(by cases iZ),λt' b' x' r' lK iK _ iZ=>(by cases iZ),λq' _ Fo=>(by cases Fo),λ_ _ _ _ hf=>(by cases hf),λt' _ hf=>(by cases hf),λargs c9 _ hf r row hr hm=>Cl r row hr hm,λargs c9 x' l' _ hf ha he=> ?_⟩
              rotate_left
              . cases hf
                have hx:x= .tmp x':=by
                  have:=congrArg List.head? ha
                  simpa using this
                subst hx
                exact YP he
              unfold nb
              refine Bt rfl hM λc w a hm hb hR eg K' Q pJ=> ?_
              obtain⟨v',w',c',gz,hn,jQ,hv⟩:=hr c w _ _ hm hb hR (eg x (by simp [Op.operands,Call.operands])) (eg y (by simp [Op.operands,Call.operands]))
              refine FH ?_ (pJ v' w' c' hn jQ hv)
              simp only[execOp,resolve,Sem.run_bind,Sem.run_pure,Result.andThen_ok,invoke,builtin]
              have:(#[x,y]:Array Operand).map a.eval= #[a.eval x,a.eval y]:=by simp
              rw[this,gz];rfl
            . exact h.elim
          obtain⟨ks,val,R',iv,h0,h1,h2,h3⟩:=U8 hT hG h
          exact⟨ks,val,R',iv,h0,h1,h2,h3,λt a r ii off hg ho ha=>(hL ⟨t,a,r,ii,off,hg,ho,ha⟩).elim,λt b x r ii off hg ho hb=>(hS ⟨t,b,x,r,ii,off,hg,ho,hb⟩).elim,λq hg hq=>(hP ⟨q,hg,hq⟩).elim,λf args c9 hg ho lz=>(hC ⟨f,args,c9,hg,ho,lz⟩).elim,λt hg ho=>(hAl ⟨t,hg,ho⟩).elim,λargs c9 hg ho=>(YO ⟨args,c9,hg,ho⟩).elim,λargs c9 x l' hg ho ha he=>(YO ⟨args,c9,hg,ho⟩).elim⟩
theorem PN{d:D}(h:o9 d=true):sL d=true:=by cases d<;>first|rfl|cases h
theorem zv{ks:List Nat}{d:D}{r i off:Nat}(h:d.gd ks=.ptr r i off):d=.ptr r i off:=by
 cases d with
 |all x=>simp only[D.gd,D.kill,D.ee]at h;cases hb:bq x ks<;>rw[hb]at h<;>cases h
 |own x y z=>simp only[D.gd,D.kill,D.ee]at h;cases hb:bq x ks<;>rw[hb]at h<;>cases h
 |ptr x y z=>simp only[D.gd,D.kill,D.ee]at h;cases hb:bq x ks<;>rw[hb]at h<;>cases h;rfl
 |pa x y z u v q=>simp only[D.gd,D.kill,D.ee]at h;cases hb:bq x ks<;>rw[hb]at h<;>cases h
 |cy x=>simp only[D.gd,D.kill,D.ee]at h;cases hb:bq x ks<;>rw[hb]at h<;>cases h
 |gb f cs=>simp only[D.gd,D.kill,D.ee]at h;cases hb:ny (oe cs) ks<;>rw[hb]at h<;>cases h
 |dt ds=>simp[D.gd]at h
 |agg ds=>simp[D.gd,D.kill]at h
 |_=>simp[D.gd,D.kill,D.ee]at h
theorem Jt{ops:Array Oper}{i a k:Nat}{o:Oper}(h:kS ops i a=true)(hk:i<=k)(ho:ops[k]?=some o):o.dst≠some a:=by
 intro hd
 have hm:o∈ops.toList.drop i:=by
  have h1:(ops.toList.drop i)[k-i]?=some o:=by
   rw[List.getElem?_drop,show i+(k-i)=k by omega];simpa using ho
  exact fX h1
 have:=List.all_eq_true.1 h o hm
 simp[hd]at this
theorem Zlw{G:List ba}{f:FuncId}(h:(match oJ G f with|some _=>true|none=>Z1 G f)=false):oJ G f=none/\Z1 G f=false:=by
 cases hg:oJ G f with
 |none=>rw[hg]at h;exact⟨rfl,h⟩
 |some k=>rw[hg]at h;cases h
def Ju(ops:Array Oper)(env:List (Nat×D))(i:Nat)(o:Oper)(q:List Nat):Prop:=
 (∀a∈q,kS ops i a=true/\Hk (look env a)=true)/\∀t,o.dst=some t->kS ops (i+1) t=true/\Hk (look env t)=true
theorem Uh{env:List (Nat×D)}{op:Op}{q:List Nat}(h:pb op=some q):lD env op=some q:=by
 unfold lD;rw[h]
theorem PO{G:List ba}{ops:Array Oper}{env:List (Nat×D)}{i j:Nat}{x y:Oper}(hx:ops[i]?=some x)(hy:ops[j]?=some y)(h:L2 G ops env i j=true):
 (∃t a t' b z r r' ii off lK iK,x.guard=none/\y.guard=none/\x.op=.load t (.tmp a)/\y.op=.store t' (.tmp b) z/\kS ops i a=true/\kS ops j b=true/\look env a=.ptr r ii off/\look env b=.ptr r' lK iK/\r≠r')\/
 (∃q,x.guard=none/\y.guard=none/\lD env x.op=some q/\(∀a∈q,kS ops i a=true)/\((∃t' b z r' lK iK,y.op=.store t' (.tmp b) z/\kS ops j b=true/\look env b=.ptr r' lK iK)\/∃f args c9,y.op=.call ⟨.value (.func f),args,c9⟩/\(oJ G f=none/\Z1 G f=false)))\/
 (∃q,x.guard=none/\pb x.op=some q/\Ju ops env i x q)\/
 (∃t a r ii off args c9 x0 l,x.guard=none/\y.guard=none/\x.op=.load t (.tmp a)/\kS ops i a=true/\look env a=.ptr r ii off/\y.op=.call ⟨.builtin .append,args,c9⟩/\args.toList=.tmp x0::l/\kS ops j x0=true/\Jq (look env x0)=true)\/
 (∃t a r ii off args c9 td,x.guard=none/\y.guard=none/\x.op=.load t (.tmp a)/\kS ops i a=true/\look env a=.ptr r ii off/\y.op=.call ⟨.builtin .append,args,c9⟩/\x.dst=some td/\kS ops (i+1) td=true/\o9 (look env td)=true):=by
 unfold L2 at h
 simp only[hx,hy]at h
 split at h
 ·rename_i t a t' b z h1 h2 h3 h4
  simp only[aE]at h
  obtain⟨g1,g2,g3⟩:=h
  split at g3
  ·rename_i r ii off r' lK iK e1 e2
   refine .inl ⟨t,a,t',b,z,r,r',ii,off,lK,iK,h1,h2,h3,h4,g1,g2,e1,e2,λe=>?_⟩
   subst e
   simp at g3
  ·rename_i sz es k off r' lK iK e1 e2
   exact .inr (.inl ⟨[a],h1,h2,by rw[h3];simp[lD,pb,bo,e1,mn],λa' ha=>by simp at ha;subst ha;exact g1,.inl ⟨t',b,z,r',lK,iK,h4,g2,e2⟩⟩)
  ·cases g3
 ·rename_i op t' b z h1 h2 h4 _
  split at h
  ·rename_i q hq
   simp only[aE]at h
   obtain⟨g1,g2,g3⟩:=h
   split at g3
   ·rename_i r' lK iK e2
    exact .inr (.inl ⟨q,h1,h2,hq,λa ha=>List.all_eq_true.1 g1 a ha,.inl ⟨t',b,z,r',lK,iK,h4,g2,e2⟩⟩)
   ·cases g3
  ·cases h
 ·rename_i op f c9 h1 h2 h4
  split at h
  ·cases h
  ·rename_i HU
   have YQ:=Zlw HU
   split at h
   ·rename_i q hq
    exact .inr (.inl ⟨q,by assumption,by assumption,hq,λa ha=>List.all_eq_true.1 h a ha,.inr ⟨_,_,_,by assumption,YQ⟩⟩)
   ·cases h
 ·rename_i op args c9 h1 h2 h4 _
  split at h
  ·rename_i q hq
   simp only[aE]at h
   refine .inr (.inr (.inl ⟨q,by assumption,hq,λa ha=>?_,λt ht=>?_⟩))
   ·have:=List.all_eq_true.1 h.1 a ha
    simpa only[aE]using this
   ·have:=h.2
    simp only[ht,aE]at this
    exact this
  ·have PQ:∀{d:D},Hk d=true->∃r ii off,d=.ptr r ii off:=fun{d} k=>by
    cases d<;>first|(cases k;done)|exact⟨_,_,_,rfl⟩
   rcases Bool.or_eq_true_iff.1 h with h|h
   ·unfold CK at h
    split at h
    ·rename_i t a x0 l YR hl
     simp only[aE]at h
     obtain⟨k1,k2,k3,k4⟩:=h
     obtain⟨r,ii,off,hr⟩:=PQ k3
     exact .inr (.inr (.inr (.inl ⟨t,a,r,ii,off,c9,h1,x0,l,by assumption,by assumption,YR,k1,hr,by assumption,hl,k2,k4⟩)))
    ·cases h
   ·unfold CL at h
    split at h
    ·rename_i t a td YR tu
     simp only[aE]at h
     obtain⟨k1,k2,k3,k4⟩:=h
     obtain⟨r,ii,off,hr⟩:=PQ k2
     exact .inr (.inr (.inr (.inr ⟨t,a,r,ii,off,c9,h1,td,by assumption,by assumption,YR,k1,hr,by assumption,tu,k3,k4⟩)))
    ·cases h
 ·cases h
theorem Zia{ops:Array Oper}{j:Nat}{y:Oper}(hy:ops[j]?=some y)(h:uy ops j=true):(∃t,y.guard=none/\y.op=.alloc t)/\∀u,y.dst=some u->∀k o',k≠j->ops[k]?=some o'->o'.dst≠some u:=by
 unfold uy at h
 simp only[hy]at h
 split at h
 ·rename_i t h1 h2
  refine⟨⟨t,h1,h2⟩,λu hu k o' hk dr hd=>?_⟩
  simp only[hu]at h
  have cj:=(Array.getElem?_eq_some_iff.1 dr).1
  have:=List.all_eq_true.1 h k (List.mem_range.2 cj)
  simp only[dr,aL,hd,aI]at this
  rcases this with this|this
  ·exact hk (bE this)
  ·simp at this
 ·cases h
theorem Fp{G:List ba}{ops:Array Oper}{env:List (Nat×D)}(h:PR G ops env=true){i j:Nat}{x y:Oper}(U9:i<j)(hx:ops[i]?=some x)(hy:ops[j]?=some y):
 (x.apart ops y=true\/((Region.before ops).getD j 0).testBit i=true)/\((kW G x.op=true/\kW G y.op=true)\/((Region.before ops).getD j 0).testBit i=true\/L2 G ops env i j=true\/((∃t,y.guard=none/\y.op=.alloc t)/\∀u,y.dst=some u->∀k o',k≠j->ops[k]?=some o'->o'.dst≠some u)):=by
 have hj:=(Array.getElem?_eq_some_iff.1 hy).1
 have h1:=List.all_eq_true.1 h j (List.mem_range.2 hj)
 simp only[aE]at h1
 have h2:=List.all_eq_true.1 h1.2 i (List.mem_range.2 U9)
 unfold wH at h2
 simp only[hx,hy,aE,aI]at h2
 exact⟨h2.1,h2.2.elim (λg=>g.elim .inl (λg=>.inr (.inl g))) (λg=>g.elim (λg=>.inr (.inr (.inl g))) (λg=>.inr (.inr (.inr (Zia hy g)))))⟩
theorem Ze6{G:List ba}{ops:Array Oper}{env:List (Nat×D)}(h:PR G ops env=true){j:Nat}{y:Oper}(hy:ops[j]?=some y):∀e∈y.after,Region.binds .any e=true->e.on<j:=by
 have hj:=(Array.getElem?_eq_some_iff.1 hy).1
 have h1:=List.all_eq_true.1 h j (List.mem_range.2 hj)
 simp only[aE,hy]at h1
 intro e he hb
 have:=Array.all_eq_true'.1 h1.1 e he
 simp only[hb,Bool.not_true,Bool.false_or]at this
 exact lE this
theorem qau{P:Program}{G:List ba}{ops:Array Oper}{M:Nat}{c:Ctx}{w:World}{env:List (Nat×D)}{R:Rows}{a:Act}{i:Nat}{o:Oper}{ks:List Nat}{val:D}{R':Rows}(hi:ops[i]?=some o)
 (hm:Mem c w) (hb:c.base<=w.heap.size) (hR:∀r,c.R r=R.getD r none) (eg:∀t∈o.looksAt ops,Rep c w (look env t) (a.tmps.getD t undef)) (hG:nb P G M ops o env R ks val R') {K:Act->World->Prop} {Q:Exit->Act->World->Prop}
 (hK:∀v w' c',(∀k,bq k ks=true->M<=k)->jA ks c w c' w'->(∀r,c'.R r=R'.getD r none)->Rep c' w' val v->K (a.put o.dst v) w'):wpOp P ops Q i K a w:=by
 have hx:∀x∈o.op.operands,Rep c w (bo env x) (a.eval x):=λx hx=>by
  cases x with
  |tmp t=>
   refine eg t ?_
   unfold Oper.looksAt
   exact gQ _ (List.mem_filterMap.2 ⟨.tmp t,by simpa using hx,rfl⟩)
  |const v=>
   simp only[bo,Act.eval]
   cases hv:FA v with
   |none=>trivial
   |some d=>exact Ms hv c w
  |global g=>trivial
  |func f=>exact JQ f
 have run:pf P G M o (bo env) R ks val R'->o.mN P a w K Q:=λhX=>hX.toK.2 c w a hm hb hR hx K Q λv w' c' h1 h2 h3=>hK v w' c' hX.toK.1 h1 h2 h3
 have skip:ks=[]->val=.dt []->R'=R->K (a.put o.dst undef) w:=λe0 e1 e2=>by
  subst e0;subst e1;subst e2
  exact hK undef w c (λk hk=>by simp[bq]at hk) (lu.toK ⟨hm,jf.refl _ _,Fr.refl _ _,λb hb=>.inl hb,λr row hr v=>.inl ⟨⟨row,hr⟩,v,rfl⟩⟩) hR (RC _ _)
 unfold wpOp
 simp only[hi]
 unfold nb at hG
 cases hg:o.guard with
 |none=>
  simp only[hg]at hG
  have hw:Region.wanted o (yielded ops a.tmps)=true:=by simp[Region.wanted,hg]
  rw[if_pos hw]
  exact run hG
 |some jw=>
  obtain⟨j,want⟩:=jw
  simp only[hg]at hG
  obtain⟨g,h2,hG⟩:=hG
  have hr:=eg g (by
   unfold Oper.looksAt
   refine gP _ ?_
   simp only[hg,h2];simp)
  rcases hG with⟨b,h3,h4⟩|⟨h3,e0,e1,e2⟩
  rotate_left
  ·rw[h3]at hr
   rw[if_neg (by rw[RD (o:=o) hg h2 hr];simp)]
   exact skip e0 e1 e2
  rw[h3]at hr
  have hw:=RE (o:=o) hg h2 hr
  by_cases e:b=want
  ·rw[if_pos e]at h4
   rw[if_pos (by rw[hw];simpa using e)]
   exact run h4
  ·rw[if_neg e]at h4
   rw[if_neg (by rw[hw];simpa using e)]
   exact skip h4.1 h4.2.1 h4.2.2
structure Ui(P:Program)(G:List ba)(N M:Nat)(ops:Array Oper)(s:Nat->St)(ks:Nat->List Nat)(val:Nat->D):Prop extends Chain P G N M ops s ks val where
 mb:∀(i:Nat) (o:Oper),ops[i]?=some o->Jp P G o (s i).env (s i).rows (ks i) (val i) (s (i+1)).rows
theorem Zex{P:Program}{T:ff}(hT:jt P T){G:List ba}(hG:jO P G){N M:Nat}{ops:Array Oper}{K:St->Prop}:∀(l:List Oper) (k:Nat) (st:St),ops.toList.drop k=l->lF T G N M ops l st K->
 ∃ (s:Nat->St) (ks:Nat->List Nat) (val:Nat->D),s k=st/\K (s (k+l.length))/\(∀(i:Nat) (o:Oper),k<=i->ops[i]?=some o->nb P G M ops o (s i).env (s i).rows (ks i) (val i) (s (i+1)).rows)/\
  (∀(i:Nat) (o:Oper) (t:Nat),k<=i->ops[i]?=some o->look (s (i+1)).env t=if o.dst=some t then val i else look (rH (ks i) (s i).env) t)/\(∀(i:Nat) (o:Oper) (t:Nat),k<=i->ops[i]?=some o->o.dst=some t->t<N)/\
  (∀(i:Nat) (o:Oper),k<=i->ops[i]?=some o->Jp P G o (s i).env (s i).rows (ks i) (val i) (s (i+1)).rows)
 |[],k,st,hk,h=>by
  have hlen:ops.size<=k:=by
   have:=congrArg List.length hk
   simp at this;omega
  have no:∀(i:Nat) (o:Oper),k<=i->ops[i]?=some o->False:=λi o hi ho=>by
   have:=(Array.getElem?_eq_some_iff.1 ho).1;omega
  exact⟨λ_=>st,λ_=>[],λ_=>.dead,rfl,h,λi o hi ho=>(no i o hi ho).elim,λi o t hi ho=>(no i o hi ho).elim,λi o t hi ho=>(no i o hi ho).elim,λi o hi ho=>(no i o hi ho).elim⟩
 |o ::l,k,st,hk,h=>by
  have cj:k<ops.toList.length:=by
   by_cases cj:k<ops.toList.length
   ·exact cj
   ·rw[List.drop_eq_nil_of_le (by omega)]at hk;cases hk
  rw[List.drop_eq_getElem_cons cj]at hk
  have ho:ops[k]?=some o:=by
   have:=(List.cons.inj hk).1
   rw[<-this]
   simp at cj
   simp[cj]
  obtain⟨kk,v,R',iv,h1,h2,h3,h4,h5⟩:=Zlk hT hG h
  obtain⟨s,ks,val,g1,g2,g3,g4,g5,g6⟩:=Zex hT hG l (k+1) _ (List.cons.inj hk).2 h4
  refine⟨λi=>if i=k then st else s i,λi=>if i=k then kk else ks i,λi=>if i=k then v else val i,by simp,?_,λi p hi hp=>?_,λi p t hi hp=>?_,λi p t hi hp hd=>?_,λi p hi hp=>?_⟩
  ·simp only[List.length_cons]
   rw[if_neg (by omega),show k+(l.length+1)=k+1+l.length by omega]
   exact g2
  ·by_cases e:i=k
   ·subst e
    rw[ho]at hp;cases hp
    simp only[if_true,show¬i+1=i by omega,if_false,g1]
    exact h3
   ·simp only[if_neg e,if_neg (show¬i+1=k by omega)]
    exact g3 i p (by omega) hp
  ·by_cases e:i=k
   ·subst e
    rw[ho]at hp;cases hp
    simp only[if_true,show¬i+1=i by omega,if_false,g1]
    cases tu:o.dst with
    |none=>simp[rI,h1]
    |some u=>simp only[rI,AJ,Option.some.injEq,h1]
   ·simp only[if_neg e,if_neg (show¬i+1=k by omega)]
    exact g4 i p t (by omega) hp
  ·by_cases e:i=k
   ·subst e
    rw[ho]at hp;cases hp
    exact h2 t hd
   ·exact g5 i p t (by omega) hp hd
  ·by_cases e:i=k
   ·subst e
    rw[ho]at hp;cases hp
    simp only[if_true,show¬i+1=i by omega,if_false,g1]
    exact h5
   ·simp only[if_neg e,if_neg (show¬i+1=k by omega)]
    exact g6 i p (by omega) hp
section
variable {P:Program} {G:List ba} {N M:Nat} {ops:Array Oper} {s:Nat->St} {ks:Nat->List Nat} {val:Nat->D} (hc:Ui P G N M ops s ks val)
include hc
theorem DP{i a r ii off:Nat}(hn:kS ops i a=true)(h:look (s ops.size).env a=.ptr r ii off):∀{k:Nat},i<=k->k<=ops.size->look (s k).env a=.ptr r ii off:=by
 intro k nK hk
 obtain⟨n,PC⟩:∃n,ops.size=k+n:=⟨ops.size-k,by omega⟩
 have:∀n k,i<=k->k+n<=ops.size->look (s (k+n)).env a=.ptr r ii off->look (s k).env a=.ptr r ii off:=by
  intro n
  induction n with
  |zero=>intro k _ _ h;exact h
  |succ n ih=>
   intro k h1 h2 h3
   have ho:ops[k]?=some ops[k]:=aJ (by omega)
   have h4:=ih (k+1) (by omega) (by omega) (by rw[show k+1+n=k+(n+1) by omega];exact h3)
   rw[hc.env k _ a ho,if_neg (Jt hn h1 ho),Bu]at h4
   exact zv h4
 exact this n k nK (by omega) (by rw[<-PC];exact h)
theorem Q6{i a:Nat}(hn:kS ops i a=true)(h:sL (look (s ops.size).env a)=true):∀{k:Nat},i<=k->k<=ops.size->look (s k).env a=look (s ops.size).env a:=by
 intro k nK hk
 obtain⟨n,PC⟩:∃n,ops.size=k+n:=⟨ops.size-k,by omega⟩
 have:∀n k,i<=k->k+n<=ops.size->∀p,sL p=true->look (s (k+n)).env a=p->look (s k).env a=p:=by
  intro n
  induction n with
  |zero=>intro k _ _ p _ h;exact h
  |succ n ih=>
   intro k h1 h2 p hp h3
   have ho:ops[k]?=some ops[k]:=aJ (by omega)
   have h4:=ih (k+1) (by omega) (by omega) p hp (by rw[show k+1+n=k+(n+1) by omega];exact h3)
   rw[hc.env k _ a ho,if_neg (Jt hn h1 ho),Bu]at h4
   exact Zic hp h4
 exact this n k nK (by omega) _ h (by rw[<-PC])
theorem Zlc{i:Nat}{op:Op}{q:List Nat}(h:lD (s ops.size).env op=some q)(hq:∀a∈q,kS ops i a=true){k:Nat}(h1:i<=k)(h2:k<=ops.size):lD (s k).env op=some q:=
 Znb h λa ha hs=>Q6 hc (hq a ha) hs h1 h2
theorem YS{df:Nat->Bool}{c:Nat}{t:Nat}:∀{n:Nat},(∀i o,i<n->ops[c+i]?=some o->o.dst=some t->df (c+i)=false)->iY ops s val df c n t=look (s c).env t
 |0,_=>rfl
 |n + 1,h=>by
  simp only[iY]
  rw[if_neg]
  ·exact YS (λi o hi=>h i o (by omega))
  ·rintro⟨g1,g2⟩
   cases hk:ops[c+n]? with
   |none=>rw[hk]at g2;cases g2
   |some o=>
    rw[hk]at g2
    rw[h n o (by omega) hk g2]at g1;cases g1
theorem Zdc{df:Nat->Bool}{c d:Nat}{t:Nat}(hq:∀(i:Nat) (o:Oper),c<=i->i<d->ops[i]?=some o->kW G o.op=true)(hd:d<=ops.size):∀{n:Nat},c+n<=d->(∀i o,i<n->ops[c+i]?=some o->o.dst=some t->df (c+i)=true)->iY ops s val df c n t=look (s (c+n)).env t
 |0,_,_=>rfl
 |n +1,hn,hl=>by
  have ho:ops[c+n]?=some ops[c+n]:=aJ (by omega)
  simp only[iY,ho,aL]
  rw[show c+(n+1)=(c+n)+1 by omega,hc.toChain.DY ho (hq _ _ (by omega) (by omega) ho) t]
  by_cases sK:ops[c+n].dst=some t
  ·rw[if_pos ⟨hl n _ (by omega) ho sK,sK⟩,if_pos sK]
  ·rw[if_neg (λg=>sK g.2),if_neg sK]
   exact Zdc hq hd (by omega) (λi o hi=>hl i o (by omega))
theorem Z6k{df:Nat->Bool}{c d:Nat}(hq:∀(i:Nat) (o:Oper),c<=i->i<d->ops[i]?=some o->kW G o.op=true)(hd:d<=ops.size):∀{n:Nat},c+n<=d->(∀i,i<n->df (c+i)=true\/(s (c+i+1)).rows=(s (c+i)).rows)->∀r,ki s df c n r=(s (c+n)).rows.getD r none
 |0,_,_,r=>rfl
 |n + 1,hn,hl,r=>by
  simp only[ki]
  rw[show c+(n+1)=c+n+1 by omega]
  have hlen:=JO hc.toChain hq hd (show c<=c+n by omega) (show c+n<=c+n+1 by omega) (by omega)
  have ih:=Z6k hq hd (n:=n) (by omega) (λi hi=>hl i (by omega)) r
  rcases hl n (by omega)with h|h
  ·simp only[h,true_and]
   split
   ·rfl
   ·rw[ih]
    by_cases h2:r<(s (c+n)).rows.length
    ·exact(JP hc.toChain hq hd (by omega) (by omega) (by omega) h2).symm
    ·simp only[aK]
     rw[aM (by omega),aM (by omega)]
  ·rw[if_neg (by rw[h];omega),ih,h]
theorem Zep{df:Nat->Bool}{c d:Nat}(hq:∀(i:Nat) (o:Oper),c<=i->i<d->ops[i]?=some o->kW G o.op=true)(hd:d<=ops.size){r:Nat}(hr:r<(s c).rows.length):∀{n:Nat},c+n<=d->ki s df c n r=(s c).rows.getD r none
 |0,_=>rfl
 |n+1,hn=>by
  simp only[ki]
  have hlen:=JO hc.toChain hq hd (show c<=c by omega) (show c<=c+n by omega) (by omega)
  rw[if_neg (by omega)]
  exact Zep hq hd hr (by omega)
end
structure sM(w0:World)(cx:Ctx)(w:World)(b:Nat)(arr:Array Value)(ty:TypeId):Prop where
 ju:w0.heap.size<=b
 lt:b<w.heap.size
 here:w.heap[b]?=some (.cells arr ty (0,0))
 fh:¬cx.I b
 row:∀r row,cx.R r=some row->¬cx.V r->cx.ρ r≠b
theorem sM.cq{w0 w w':World}{c c':Ctx}{ks:List Nat}{b:Nat}{arr:Array Value}{ty:TypeId}(h:sM w0 c w b arr ty)(n:jA ks c w c' w'):sM w0 c' w' b arr ty:=by
 refine⟨h.ju,bI h.lt n.fr.size,(n.fr.heap b h.lt fun⟨r,x,h1,h2,h3⟩=>h.row r x h1 h2 h3).trans h.here,λhb=>?_,λr row hr hv e=>?_⟩
 ·rcases n.fh b hb with g|⟨s,x,_,g1,g2,g3⟩|g
  ·exact h.fh g
  ·exact h.row s x g1 g2 g3
  ·have:=h.lt;omega
 ·rcases n.nS r row hr hv with⟨⟨x,g1⟩,g2,g3⟩|⟨s,x,_,g1,g2,g3⟩|g
  ·exact h.row r x g1 g2 (by rw[<-g3];exact e)
  ·exact h.row s x g1 g2 (by rw[<-g3];exact e)
  ·have:=h.lt;omega
theorem yv{a:Act}{o:Oper}{v:Value}{u:Nat}(h:o.dst≠some u):(a.put o.dst v).tmps.getD u undef=a.tmps.getD u undef:=by
 cases ho:o.dst with
 |none=>simp[Act.put]
 |some x=>
  have gg:x≠u:=λe=>h (by rw[ho,e])
  simp[Act.put,aQ gg]
theorem yS{a:Act}{dst:Option Tmp}{v:Value}{u:Nat}(h:dst=some u)(cj:u<a.tmps.size):(a.put dst v).tmps.getD u undef=v:=by
 subst h
 simp[Act.put,aP,cj]
def L3(P:Program)(ops:Array Oper)(s:Nat->St)(val:Nat->D)(w0:World)(cx:Ctx)(w:World)(a:Act)(i b:Nat):Prop:=
 ∃ o t row arr,ops[i]?=some o/\o.guard=none/\o.op=.alloc t/\Ug P o row arr/\val i=.ptr (s i).rows.length 0 0/\(s (i+1)).rows=(s i).rows++[some row]/\sM w0 cx w b arr row.ty/\
  (∀u,o.dst=some u->a.tmps.getD u undef=.pointer (some ⟨b,0,none⟩))/\∀u,o.dst=some u->∀k o',k≠i->ops[k]?=some o'->o'.dst≠some u
theorem L3.cq{P:Program}{ops:Array Oper}{s:Nat->St}{val:Nat->D}{w0 w w':World}{c c':Ctx}{ks:List Nat}{a:Act}{i k b:Nat}{o:Oper}{v:Value}(h:L3 P ops s val w0 c w a k b)(n:jA ks c w c' w')(nK:i≠k)(ho:ops[i]?=some o):L3 P ops s val w0 c' w' (a.put o.dst v) k b:=by
 obtain⟨o',t,row,arr,g1,g2,g3,g4,g5,g6,g7,g8,g9⟩:=h
 exact⟨o',t,row,arr,g1,g2,g3,g4,g5,g6,g7.cq n,λu hu=>by rw[yv (g9 u hu i o nK ho)];exact g8 u hu,g9⟩
theorem YT{c:Ctx}{w:World}(hm:Mem c w)(o:Obj):jf c w c (w.alloc o):=
 ⟨rfl,aO _,λb hb=>⟨hb,w6 w o b (hm.fh b hb).1⟩,λr x hr=>⟨x,hr,rfl,rfl,rfl,rfl,rfl,Iff.rfl,λnv arr ha=>⟨arr,by rw[w6 w o _ (hm.lt hr nv)];exact ha,rfl⟩⟩⟩
theorem YU(w:World)(o:Obj):(w.alloc o).heap.size=w.heap.size+1:=by show(w.heap.push o).size=_;simp
theorem Znh{c:Ctx}{w:World}(hm:Mem c w)(o:Obj):Mem c (w.alloc o):=
 ⟨λr row hr=>tC (YT hm o) rfl Iff.rfl (λnv=>w6 w o _ (hm.lt hr nv)) (hm.row r row hr),hm.inj,(λb hb=>⟨by have:=(hm.fh b hb).1;rw[YU];omega,(hm.fh b hb).2⟩),by have:=hm.top;rw[YU];omega,hm.kC.mono (YT hm o).I⟩
theorem Zez{c:Ctx}{w:World}{k:Nat}(hk:c.R k=none)(row:Row)(b:Nat):jf c w (c.add k row b) w:=by
 refine⟨rfl,aO _,λb hb=>⟨hb,rfl⟩,λr x hr=>?_⟩
 have gg:r≠k:=λe=>by rw[e,hk]at hr;cases hr
 exact⟨x,by simp[Ctx.add,gg,hr],rfl,rfl,rfl,rfl,by simp[Ctx.add,gg],by simp[Ctx.add,gg],λnv arr ha=>⟨arr,ha,rfl⟩⟩
theorem zau{P:Program}{o:Oper}{c:Ctx}{w w0:World}(hm:Mem c w){k:Nat}(hk:c.R k=none){row:Row}{b:Nat}{arr:Array Value}(hA:Ug P o row arr)(hl:sM w0 c w b arr row.ty):Mem (c.add k row b) w:=by
 have hg:=Zez (w:=w) hk row b
 have ju:∀r x,r≠k->(c.add k row b).R r=some x->c.R r=some x/\(c.add k row b).ρ r=c.ρ r/\((c.add k row b).V r↔c.V r):=λr x e h=>⟨by simpa[Ctx.add,e]using h,by simp[Ctx.add,e],by simp[Ctx.add,e]⟩
 refine⟨λr x hr=>?_,λr s x y hr hs v1 v2 he=>?_,λb' hb=>⟨(hm.fh b' hb).1,λr x hr v=>?_⟩,hm.top,hm.kC⟩
 ·by_cases e:r=k
  ·subst e
   simp only[Ctx.add,if_true,Option.some.injEq]at hr
   subst hr
   obtain⟨e,h1,h2,h3,h4⟩:=hA.cells
   refine .inr ⟨by simp[Ctx.add],arr,by simp only[Ctx.add,if_true];exact hl.here,hA.sz,?_⟩
   rw[if_pos hA.box]
   exact⟨e,h1,h2,h3,h4 _ _⟩
  ·obtain⟨g1,g2,g3⟩:=ju r x e hr
   exact tC hg g2 g3 (λ_=>rfl) (hm.row r x g1)
 ·by_cases e1:r=k<;>by_cases e2:s=k
  ·rw[e1,e2]
  ·obtain⟨g1,g2,g3⟩:=ju s y e2 hs
   exfalso
   refine hl.row s y g1 (λe=>v2 (g3.2 e)) ?_
   rw[<-g2,<-he,e1];simp[Ctx.add]
  ·obtain⟨g1,g2,g3⟩:=ju r x e1 hr
   exfalso
   refine hl.row r x g1 (λe=>v1 (g3.2 e)) ?_
   rw[<-g2,he,e2];simp[Ctx.add]
  ·obtain⟨g1,g2,g3⟩:=ju r x e1 hr
   obtain⟨k1,k2,k3⟩:=ju s y e2 hs
   exact hm.inj r s x y g1 k1 (λe=>v1 (g3.2 e)) (λe=>v2 (k3.2 e)) (by rw[<-g2,<-k2];exact he)
 ·by_cases e:r=k
  ·subst e
   simp only[Ctx.add,if_true]
   intro e;subst e
   exact hl.fh hb
  ·obtain⟨g1,g2,g3⟩:=ju r x e hr
   rw[g2];exact(hm.fh b' hb).2 r x g1 (λe=>v (g3.2 e))
def PS(ops:Array Oper)(env:List (Nat×D))(i:Nat)(o:Oper):Prop:=∃td,o.dst=some td/\kS ops (i+1) td=true/\o9 (look env td)=true
def PU(ops:Array Oper)(s:Nat->St)(ks:Nat->List Nat)(i c:Nat):Prop:=
 (∃o t a r ii off row ao,ops[i]?=some o/\o.guard=none/\o.op=.load t (.tmp a)/\kS ops i a=true/\look (s ops.size).env a=.ptr r ii off/\(s i).rows.getD r none=some row/\(s c).rows.getD r none=some ao/\((ao=row/\∀k,i<k->k<c->ks k=[])\/(PS ops (s ops.size).env i o/\∃L:List (List Nat),ao=L.foldl (λr k=>Row.kill k r) row/\∀kk∈L,∃j,i<j/\j<c/\kk=ks j)))\/
 (∃o q,ops[i]?=some o/\o.guard=none/\lD (s ops.size).env o.op=some q/\(∀a∈q,kS ops i a=true)/\((∀k,i<k->k<c->ks k=[])\/Ju ops (s ops.size).env i o q))
structure Inv2(P:Program)(G:List ba)(N M:Nat)(ops:Array Oper)(s:Nat->St)(ks:Nat->List Nat)(val:Nat->D)(c0:Ctx)(w0:World)(df:Nat->Bool)(a:Act)(w:World)(c d:Nat):Prop where
 cd:c<=d
 dn:d<=ops.size
 pre:∀i,i<c->df i=true\/PU ops s ks i c
 quiet:∀(i:Nat) (o:Oper),c<=i->i<d->ops[i]?=some o->kW G o.op=true
 wr:∀(o:Oper),ops[d]?=some o->kW G o.op=false
 closed:∀j,df j=true->∀(o:Oper),ops[j]?=some o->∀e∈o.after,Region.binds .any e=true->df e.on=true
 size:N<=a.tmps.size
 defers:lG w0.heap.size w a.defers
 fw:c0.base<=w0.heap.size
 gk:∀r row,c0.R r=some row->r<M
 ctx:∃(cx:Ctx) (B:Nat->Nat),Mem cx w/\(∀r,cx.R r=ki s df c (d-c) r)/\(∀t,(∀k o,k<c->df k=false->ops[k]?=some o->o.dst≠some t)->(∀k o,d<=k->df k=true->ops[k]?=some o->o.dst≠some t)->Rep cx w (iY ops s val df c (d-c) t) (a.tmps.getD t undef))/\wP c0 w0 cx w/\
  (∀i,d<=i->df i=true->L3 P ops s val w0 cx w a i (B i))/\(∀i j,d<=i->d<=j->df i=true->df j=true->B i=B j->i=j)
theorem Uj{c':Ctx}{w':World}{a:Act}{o:Oper}{t:Nat}{d:D}{v:Value}{N:Nat}(hs:N<=a.tmps.size)(hd:∀u,o.dst=some u->u<N)(h1:o.dst=some t->Rep c' w' d v)(h2:o.dst≠some t->Rep c' w' d (a.tmps.getD t undef)):Rep c' w' d ((a.put o.dst v).tmps.getD t undef):=by
 cases ho:o.dst with
 |none=>simpa[Act.put]using h2 (by rw[ho];simp)
 |some u=>
  by_cases e:u=t
  ·subst e
   have hu:u<a.tmps.size:=bI (hd u ho) hs
   simpa[Act.put,aP,hu]using h1 ho
  ·have:=h2 (by rw[ho];intro h;exact e (Option.some.inj h))
   simpa[Act.put,aQ e]using this
theorem PV{P:Program}{G:List ba}{N M:Nat}{ops:Array Oper}{s:Nat->St}{ks:Nat->List Nat}{val:Nat->D}(hc:Ui P G N M ops s ks val){c0:Ctx}{w0 w:World}{df:Nat->Bool}{a:Act}{c d:Nat}
 (hq:∀(i:Nat) (o:Oper),c<=i->i<d->ops[i]?=some o->kW G o.op=true) (hd:d<=ops.size)
 (h:∃(cx:Ctx) (B:Nat->Nat),Mem cx w/\(∀r,cx.R r=(s c).rows.getD r none)/\(∀t,(∀k o,k<c->df k=false->ops[k]?=some o->o.dst≠some t)->(∀k o,c<=k->df k=true->ops[k]?=some o->o.dst≠some t)->Rep cx w (look (s c).env t) (a.tmps.getD t undef))/\wP c0 w0 cx w/\
  (∀i,c<=i->df i=true->L3 P ops s val w0 cx w a i (B i))/\(∀i j,c<=i->c<=j->df i=true->df j=true->B i=B j->i=j)):
 ∀ n,c+n<=d->∃(cx:Ctx) (B:Nat->Nat),Mem cx w/\(∀r,cx.R r=ki s df c n r)/\(∀t,(∀k o,k<c->df k=false->ops[k]?=some o->o.dst≠some t)->(∀k o,c+n<=k->df k=true->ops[k]?=some o->o.dst≠some t)->Rep cx w (iY ops s val df c n t) (a.tmps.getD t undef))/\wP c0 w0 cx w/\
  (∀i,c+n<=i->df i=true->L3 P ops s val w0 cx w a i (B i))/\(∀i j,c+n<=i->c+n<=j->df i=true->df j=true->B i=B j->i=j):=by
 have hlen:∀k l,c<=k->k<=l->l<=d->(s k).rows.length<=(s l).rows.length:=λk l h1 h2 h3=>JO hc.toChain hq hd h1 h2 h3
 have PW:∀n,c+n<=d->∀r,(s (c+n)).rows.length<=r->ki s df c n r=none:=by
  intro n
  induction n with
  |zero=>intro _ r hr;simp only[ki];simp only[bG]at hr;rw[aK,aM hr];rfl
  |succ n ih=>
   intro hn r hr
   simp only[ki]
   have:=hlen (c+n) (c+n+1) (by omega) (by omega) (by omega)
   rw[show c+(n+1)=c+n+1 by omega]at hr
   rw[if_neg (by omega)]
   exact ih (by omega) r (by omega)
 intro n
 induction n with
 |zero=>intro _;simpa only[ki,iY,bG]using h
 |succ n ih=>
  intro hn
  obtain⟨cx,B,hm,hR,hE,nJ,nz,oj⟩:=ih (by omega)
  cases hl:df (c+n)with
  |false=>
   refine⟨cx,B,hm,λr=>?_,λt ht he=>?_,nJ,λi hi GS=>nz i (by omega) GS,λi j hi hj=>oj i j (by omega) (by omega)⟩
   ·simp only[ki,hl,aN,false_and,if_false];exact hR r
   ·simp only[iY,hl,aN,false_and,if_false]
    refine hE t ht λk o hk ot=>he k o ?_ ot
    by_cases e:k=c+n
    ·rw[e,hl]at ot;cases ot
    ·omega
  |true=>
   obtain⟨o,ty,row,arr,g1,g2,g3,g4,g5,g6,g7,g8,g9⟩:=nz (c+n) (aO _) hl
   have hk:cx.R (s (c+n)).rows.length=none:=by rw[hR];exact PW n (by omega) _ (aO _)
   have hg:=Zez (w:=w) hk row (B (c+n))
   refine⟨cx.add (s (c+n)).rows.length row (B (c+n)),B,zau hm hk g4 g7,λr=>?_,λt ht he=>?_,⟨nJ.bz.trans hg,nJ.fr,nJ.fh,λr x hr hv=>?_,nJ.xb⟩,λi hi GS=>?_,λi j hi hj=>oj i j (by omega) (by omega)⟩
   ·simp only[ki,hl,true_and,g6,lA,List.length_singleton]
    by_cases e:r=(s (c+n)).rows.length
    ·subst e
     rw[if_pos ⟨aO _,Nat.lt_succ_self _⟩]
     simp[Ctx.add,aK]
    ·rw[if_neg (by omega)]
     simp only[Ctx.add,if_neg e];exact hR r
   ·simp only[iY,hl,true_and,g1,aL]
    split
    ·rename_i tu
     rw[g8 t tu,g5]
     obtain⟨e,q1,_⟩:=g4.cells
     exact⟨row,(Ctx.iU _ _ _ _).1,by simp[Ctx.add],by rw[q1];simp[ak.l],by simp[(Ctx.iU _ _ _ _).2]⟩
    ·rename_i tu
     refine wQ hg (hE t ht λk o' DX ot dr=>?_)
     by_cases e:k=c+n
     ·subst e;rw[g1]at dr;cases dr;exact tu
     ·exact he k o' (by omega) ot dr
   ·by_cases e:r=(s (c+n)).rows.length
    ·right;right
     rw[e];simp only[Ctx.add,if_true];exact g7.ju
    ·have nc:cx.R r=some x:=by simpa[Ctx.add,e]using hr
     have LQ:¬cx.V r:=by simpa[Ctx.add,e]using hv
     have:=nJ.nS r x nc LQ
     simpa only[Ctx.add,if_neg e]using this
   ·obtain⟨o',t',ao,iJ,f1,f2,f3,f4,f5,f6,f7,f8,f9⟩:=nz i (by omega) GS
    refine⟨o',t',ao,iJ,f1,f2,f3,f4,f5,f6,⟨f7.ju,f7.lt,f7.here,f7.fh,λr x hr hv e'=>?_⟩,f8,f9⟩
    by_cases e:r=(s (c+n)).rows.length
    ·rw[e]at e'
     simp only[Ctx.add,if_true]at e'
     have:=oj (c+n) i (aO _) (by omega) hl GS e'
     omega
    ·exact f7.row r x (by simpa[Ctx.add,e]using hr) (by simpa[Ctx.add,e]using hv) (by simpa only[Ctx.add,if_neg e]using e')
section
variable {P:Program} {G:List ba} {N M:Nat} {ops:Array Oper} {s:Nat->St} {ks:Nat->List Nat} {val:Nat->D} (hc:Ui P G N M ops s ks val) (me:PR G ops (s ops.size).env=true)
include hc me
theorem qw {c0 :Ctx}{w0:World}{df fx:Nat->Bool}{a:Act}{w:World}{c d i:Nat}{o:Oper}(hI:Inv2 P G N M ops s ks val c0 w0 df a w c d)(ho:ops[i]? =some o)(h0:df i=false)(h1:fx i=true)(h2: ∀k,k≠i->fx k=df k)
    (Mp: ∀e∈o.after,Region.binds .any e=true->df e.on=true) {K:Act->World->Prop} {Q:Exit->Act->World->Prop} (hK: ∀a' w' c' d',Inv2 P G N M ops s ks val c0 w0 fx a' w' c' d'->K a' w'):wpOp P ops Q i K a w:=by
  have cj:=(Array.getElem?_eq_some_iff.1 ho).1
  have pE: ∀k,((Region.before ops).getD i 0).testBit k=true->df k=true:=λk hk=>
    Rv (listed:=λk=>df k=true) hI.closed (λo' iZ=>by rw[ho]at iZ;cases iZ;exact Mp) hk
  have nI: ∀j k,df j=true->((Region.before ops).getD j 0).testBit k=true->df k=true:=λj k hj hk=>
    Rv (listed:=λk=>df k=true) hI.closed (hI.closed j hj) hk
  have tv: ∀j,fx j=true-> ∀(o:Oper),ops[j]? =some o-> ∀e∈o.after,Region.binds .any e=true->fx e.on=true:=by
    intro j hj o' iZ e he hb
    have gg:df e.on=true:=by
      by_cases e':j=i
      . subst e';rw[ho]at iZ;cases iZ;exact Mp e he hb
      . rw[h2 j e']at hj;exact hI.closed j hj o' iZ e he hb
    rw[h2 e.on (λe'=>by rw[e',h0]at gg;cases gg)]
    exact gg
  have De: ∀{x:Oper} {t:TypeId} {y:Operand},x.op= .load t y->kW G x.op=true:=λh=>by rw[h];rfl
  have hpu: ∀{x:Oper} {env:List (Nat×D)} {q:List Nat},lD env x.op=some q->kW G x.op=true:=λh=>by
    unfold kW;rw[(Z0f (G:=G) h).1];rfl
  have GR: ∀{x:Oper} {t:TypeId},x.op= .alloc t->kW G x.op=true:=λh=>by rw[h];rfl
  obtain⟨cx,B,hm,hR,hE,nJ,nz,oj⟩:=hI.ctx
  have Fb:df d=false:=by
    cases hl:df d with
    |false=>rfl
    | true=>
      obtain⟨o',t,_,_,g1,_,g3,_⟩:=nz d (aO _) hl
      have:=hI.wr _ g1
      rw[GR g3]at this;cases this
  have hid:i<=d\/(d<i/\(∃t,o.guard=none/\o.op= .alloc t)/\ ∀u,o.dst=some u-> ∀k o',k≠i->ops[k]? =some o'->o'.dst≠some u):=by
    by_cases h:i<=d
    . exact .inl h
    . right
      have Bg:ops[d]? =some ops[d]:=aJ (by omega)
      have:=(Fp me (show d<i by omega) Bg ho).2
      rcases this with⟨hq,_⟩|hb|hb|hb
      . rw[hI.wr _ Bg]at hq;cases hq
      . have:=pE d hb
        rw[Fb]at this;cases this
      . rcases PO Bg ho hb with⟨t,b,t',b',z,r,r',ii,off,lK,iK,g1,g2,g3,_⟩|⟨q,g1,g2,g3,_⟩|⟨q,g1,g3,_⟩|⟨_,_,_,_,_,_,_,_,_,g1,g2,g3,_⟩|⟨_,_,_,_,_,_,_,_,g1,g2,g3,_⟩
        . have:=De g3
          rw[hI.wr _ Bg]at this;cases this
        . have:=hpu g3
          rw[hI.wr _ Bg]at this;cases this
        . have:=hpu (Uh (env:=[]) g3)
          rw[hI.wr _ Bg]at this;cases this
        . have:=De g3
          rw[hI.wr _ Bg]at this;cases this
        . have:=De g3
          rw[hI.wr _ Bg]at this;cases this
      . exact⟨by omega,hb⟩
  have Vm:=hI.cd
  have HC:=hI.dn
  have je:cx.base<=w.heap.size:=by rw[nJ.bz.base];exact Nat.le_trans hI.fw nJ.fr.size
  have seen: ∀k o' t,k<i->ops[k]? =some o'->o'.dst=some t->t∈o.looksAt ops->df k=true:=by
    intro k o' t hk iZ hd ht
    rcases(Fp me hk iZ ho).1 with tw|hb
    . exact((Fz tw).2.1 hd ht).elim
    . exact pE _ hb
  have CM: ∀k o' t,d<=k->df k=true->ops[k]? =some o'->t∈o.looksAt ops->i<=d->o'.dst≠some t:=by
    intro k o' t hk hl iZ ht hid hd
    have nK:i<k:=by
      by_cases e:k=i
      . rw[e,h0]at hl;cases hl
      . omega
    rcases(Fp me nK ho iZ).1 with tw|hb
    . exact(Fz tw).2.2 hd ht
    . have:=nI _ _ hl hb
      rw[h0]at this;cases this
  rcases hid with hid|⟨hdi,⟨t0,YV,ho0⟩,JU⟩
  rotate_left
  ·
    obtain⟨hks,row,arr,hA,hv,cv⟩:=(hc.mb i o ho).al t0 YV ho0
    unfold wpOp
    simp only[ho]
    have hw:Region.wanted o (yielded ops a.tmps)=true:=by simp [Region.wanted,YV]
    rw[if_pos hw]
    refine FH (hA.run a.eval w) ?_
    have hmn:=Znh hm (.cells arr row.ty)
    have uW:=YT hm (.cells arr row.ty)
    have hn:jA [] cx w cx (w.alloc (.cells arr row.ty)):=lu.toK ⟨hmn,uW,Fr.alloc _ w _,λb hb=> .inl hb,λr row hr v=> .inl ⟨⟨row,hr⟩,v,rfl⟩⟩
    refine hK _ _ c d ⟨hI.cd,hI.dn,λk hk=>by rw[h2 k (by omega)];exact hI.pre k hk,hI.quiet,hI.wr,tv,?_,?_,hI.fw,hI.gk,cx,λk=>if k=i then w.heap.size else B k,hmn,λr=> ?_,λt ht he=> ?_,nJ.step (ks:=[]) (λk hk=>by simp [bq]at hk) hI.gk hn,λk hdk hl=> ?_,λk j hk hj ot Ao e=> ?_⟩
    . cases hd:o.dst<;>simp [Act.put]<;>exact hI.size
    . first|exact lG.put (hI.defers.step hm hn.fr)|exact lG.put (hI.defers.step hm hn.toW.fr)
    . rw[hR,RA (λk hk=>h2 _ (by omega))]
    . rw[Rz (λk hk=>h2 _ (by omega))]
      refine Uj hI.size (λu=>hc.dst i o u ho) (λhd=>(he i o (by omega) h1 ho hd).elim) (λhd=> ?_)
      exact wQ uW (hE t (λk o' hk hl dr=>ht k o' hk (by rw[h2 k (by omega)];exact hl) dr) (λk o' hk hl dr=>he k o' hk (by rw[h2 k (λe'=>by rw[e',h0]at hl;cases hl)];exact hl) dr))
    . by_cases e:k=i
      . subst e
        simp only[if_true]
        exact⟨o,t0,row,arr,ho,YV,ho0,hA,hv,cv,⟨nJ.fr.size,by rw[YU];omega,TC w _,λhb=>by have:=(hm.fh _ hb).1;omega,λr ao hr LQ e=>by have:=hm.lt hr LQ;omega⟩,λu hu=>yS hu (bI (hc.dst k o u ho hu) hI.size),JU⟩
      . simp only[if_neg e]
        rw[h2 k e]at hl
        exact(nz k hdk hl).cq hn (Ne.symm e) ho
    . have key: ∀k,d<=k->fx k=true->k≠i->B k<w.heap.size:=λk hk ot e=>by
        rw[h2 k e]at ot
        obtain⟨_,_,_,_,_,_,_,_,_,_,g7,_⟩:=nz k hk ot
        exact g7.lt
      by_cases e1:k=i<;>by_cases e2:j=i
      . rw[e1,e2]
      . simp only[if_pos e1,if_neg e2]at e
        have:=key j hj Ao e2;omega
      . simp only[if_neg e1,if_pos e2]at e
        have:=key k hk ot e1;omega
      . simp only[if_neg e1,if_neg e2]at e
        exact oj k j hk hj (by rw[<-h2 k e1];exact ot) (by rw[<-h2 j e2];exact Ao) e
  by_cases ph:c<=i
  . by_cases e:i=d
    ·
      subst e
      have iL: ∀k o',c<=k->k<i->ops[k]? =some o'->df k=true\/L2 G ops (s ops.size).env k i=true:=λk o' nL rb dr=>by
        rcases(Fp me rb dr ho).2 with⟨_,hq⟩|hb|hb|⟨⟨t4,_,g4⟩,_⟩
        . rw[hI.wr _ ho]at hq;cases hq
        . exact .inl (pE _ hb)
        . exact .inr hb
        . have:=hI.wr _ ho
          rw[GR g4]at this;cases this
      have hnr: ∀k o',c<=k->k<i->ops[k]? =some o'->L2 G ops (s ops.size).env k i=true->(s (k+1)).rows=(s k).rows:=λk o' nL rb dr hb=>by
        rcases PO dr ho hb with⟨t,b,t',b',z,r,r',ii,off,lK,iK,g1,g2,g3,g4,g5,g6,g7,g8,g9⟩|⟨q,g1,g2,g3,g4,_⟩|⟨q,g1,g3,_⟩|⟨t,b,r,ii,off,_,_,_,_,g1,g2,g3,g5,g7,_⟩|⟨t,b,r,ii,off,_,_,_,g1,g2,g3,g5,g7,_⟩
        . exact((hc.mb k o' dr).ld t b r ii off g1 g3 (DP hc g5 g7 (aO _) (by omega))).2.1
        . exact((hc.mb k o' dr).pu q g1 (Zlc hc g3 g4 (aO _) (by omega))).2.1
        . exact((hc.mb k o' dr).pu q g1 (Uh g3)).2.1
        . exact((hc.mb k o' dr).ld t b r ii off g1 g3 (DP hc g5 g7 (aO _) (by omega))).2.1
        . exact((hc.mb k o' dr).ld t b r ii off g1 g3 (DP hc g5 g7 (aO _) (by omega))).2.1
      have cv: ∀r,cx.R r=(s i).rows.getD r none:=λr=>by
        rw[hR,Z6k hc hI.quiet HC (by omega) (λk hk=>by
          have dr:ops[c+k]? =some ops[c+k]:=aJ (by omega)
          rcases iL (c+k) _ (by omega) (by omega) dr with h|h
          . exact .inl h
          . exact .inr (hnr (c+k) _ (by omega) (by omega) dr h)),show c+(i-c)=i by omega]
      have sJ: ∀t,(∀k o',k<i->df k=false->ops[k]? =some o'->o'.dst≠some t)->(∀k o',i<=k->df k=true->ops[k]? =some o'->o'.dst≠some t)->Rep cx w (look (s i).env t) (a.tmps.getD t undef):=λt ht he=>by
        have:=hE t (λk o' hk=>ht k o' (by omega)) he
        rwa [Zdc hc hI.quiet HC (by omega) (λk o' hk dr hd=>by
          cases hl:df (c+k) with
          |true=>rfl
          |false=>exact(ht _ _ (by omega) hl dr hd).elim),show c+(i-c)=i by omega]at this
      refine qau (M:=M) ho hm je cv (λt ht=>sJ t (λk o' hk hl dr hd=>by rw[seen k o' t hk dr hd ht]at hl;cases hl) (λk o' hk hl dr=>CM k o' t hk hl dr ht (aO _))) (hc.op i o ho) λv w' c' hM hn jQ hv=> ?_
      obtain⟨d',g1,g2,g3,g4⟩:=Mo G ops _ (i+1) rfl (by omega)
      have cq: ∀k o' t b r ii off row,k<i->ops[k]? =some o'->df k=false->o'.guard=none->o'.op= .load t (.tmp b)->kS ops k b=true->look (s ops.size).env b= .ptr r ii off->(s i).rows.getD r none=some row->(ks i=[]/\(s (i+1)).rows.getD r none=some row)\/(PS ops (s ops.size).env k o'/\(s (i+1)).rows.getD r none=some (row.kill (ks i))):=by
        intro k o' t b r ii off row hk dr hl q1 q2 q3 q4 q5
        rcases(Fp me hk dr ho).2 with⟨_,hq⟩|hb|hb|⟨⟨t4,_,g4⟩,_⟩
        rotate_right
        . have:=hI.wr _ ho
          rw[GR g4]at this;cases this
        . rw[hI.wr _ ho]at hq;cases hq
        . rw[pE _ hb]at hl;cases hl
        . rcases PO dr ho hb with⟨t1,b1,t',b',z,r1,r',PX,CN,lK,iK,p1,p2,p3,p4,p5,p6,p7,p8,p9⟩|⟨q,p1,p2,p3,_⟩|⟨q,p1,p3,_⟩|⟨t1,b1,r1,PX,CN,args,c9,x0,l0,p1,p2,p3,p4,p5,p6,p7,p8,p9⟩|⟨t1,b1,r1,PX,CN,args,c9,td,p1,p2,p3,p4,p5,p6,p7,p8,p9⟩
          . rw[q2]at p3;cases p3
            rw[q4]at p7;cases p7
            obtain⟨f1,f2⟩:=(hc.mb i o ho).st t' b' z r' lK iK p2 p4 (DP hc p6 p8 (by omega) (by omega))
            exact .inl ⟨f1,by rw[f2 r p9];exact q5⟩
          . rw[q2]at p3;simp [lD,pb,bo,q4]at p3
          . rw[q2]at p3;cases p3
          . obtain⟨f1,f2⟩:=(hc.mb i o ho).ap args c9 x0 l0 p2 p6 p7 (by rw[Q6 hc p8 (Z9j p9) (by omega) (by omega)];exact p9)
            exact .inl ⟨f1,f2 r row q5⟩
          . refine .inr ⟨⟨td,p7,p8,p9⟩,(hc.mb i o ho).ap2 args c9 p2 p6 r row q5 ?_⟩
            have e1:=DP hc q3 q4 (show k<=i by omega) (by omega)
            have e2:=DP hc q3 q4 (show k<=i+1 by omega) (by omega)
            rw[hc.env i o b ho,if_neg (Jt q3 (by omega) ho),Bu,e1]at e2
            cases hb:bq r (ks i) with
            |false=>rfl
            |true=>simp [D.gd,D.kill,D.ee,hb]at e2
      have Hl: ∀k o' q,k<i->ops[k]? =some o'->df k=false->lD (s ops.size).env o'.op=some q->ks i=[]\/Ju ops (s ops.size).env k o' q:=by
        intro k o' q hk dr hl hq
        rcases(Fp me hk dr ho).2 with⟨_,Fo⟩|hb|hb|⟨⟨t4,_,g4⟩,_⟩
        rotate_right
        . have:=hI.wr _ ho
          rw[GR g4]at this;cases this
        . rw[hI.wr _ ho]at Fo;cases Fo
        . rw[pE _ hb]at hl;cases hl
        . rcases PO dr ho hb with⟨t1,b1,t',b',z,r1,r',PX,CN,lK,iK,p1,p2,p3,p4,p5,p6,p7,p8⟩|⟨q,p1,p2,p3,p4,p5⟩|⟨q',p1,p3,p4⟩|⟨t1,b1,r1,PX,CN,args,c9,x0,l0,p1,p2,p3,p4,p5,_⟩|⟨t1,b1,r1,PX,CN,args,c9,td,p1,p2,p3,p4,p5,_⟩
          rotate_right
          . rw[p3]at hq;simp [lD,pb,bo,p5]at hq
          rotate_right
          . rw[p3]at hq;simp [lD,pb,bo,p5]at hq
          . rw[p3]at hq;simp [lD,pb,bo,p7]at hq
          . rcases p5 with⟨t',b',z,r',lK,iK,p5,p6,p7⟩|⟨f,args,c9,p5,p6⟩
            . exact .inl ((hc.mb i o ho).st t' b' z r' lK iK p2 p5 (DP hc p6 p7 (by omega) (by omega))).1
            . exact .inl ((hc.mb i o ho).cl f args c9 p2 p5 p6)
          . rw[Uh p3]at hq;cases hq
            exact .inr p4
      have Fq: ∀k,c<=k->k<i->ks k=[]:=λk nL rb=>by
        have dr:ops[k]? =some ops[k]:=aJ (by omega)
        exact(Vb (hc.op k _ dr) (hI.quiet k _ nL rb dr)).1
      have PY: ∀t,(∀k o,k<i+1->fx k=false->ops[k]? =some o->o.dst≠some t)->(∀k o,i+1<=k->fx k=true->ops[k]? =some o->o.dst≠some t)->Rep c' w' (look (s (i+1)).env t) ((a.put o.dst v).tmps.getD t undef):=by
        intro t ht he
        rw[hc.env i o t ho]
        refine Uj hI.size (λu=>hc.dst i o u ho) (λhd=>by rw[if_pos hd];exact hv) (λhd=> ?_)
        rw[if_neg hd,Bu]
        refine wQ hn.bz (VA (sJ t (λk o' hk hl dr=> ?_) (λk o' hk hl dr=> ?_)))
        . exact ht k o' (by omega) (by rw[h2 k (by omega)];exact hl) dr
        . have gg:k≠i:=λe'=>by rw[e',h0]at hl;cases hl
          exact he k o' (by omega) (by rw[h2 k gg];exact hl) dr
      refine hK _ w' (i+1) d' ⟨g1,g2,λk hk=> ?_,g3,g4,tv,?_,?_,hI.fw,hI.gk,by
        have:=PV hc (c0:=c0) (w0:=w0) (w:=w') (df:=fx) (a:=a.put o.dst v) (c:=i+1) (d:=d') g3 g2 ⟨c',B,hn.mem,jQ,PY,nJ.step hM hI.gk hn,λk hk ot=>(nz k (by omega) (by rw[<-h2 k (by omega)];exact ot)).cq hn (by omega) ho,λk j hk hj ot Ao e=>oj k j (by omega) (by omega) (by rw[<-h2 k (by omega)];exact ot) (by rw[<-h2 j (by omega)];exact Ao) e⟩ (d'-(i+1)) (by omega)
        rwa [show i+1+(d'-(i+1))=d' by omega]at this⟩
      . by_cases e' : k=i
        . rw[e'];exact .inl h1
        . rw [h2 k e']
          cases hl:df k with
          |true=>exact .inl rfl
          | false =>
            right
            by_cases Ve:k<c
            . rcases hI.pre k Ve with h|h
              . rw[hl]at h;cases h
              . rcases h with h|⟨o',q,q1,q2,q3,q4,q8⟩
                rotate_left
                . rcases q8 with q8|q8
                  rotate_left
                  . exact .inr ⟨o',q,q1,q2,q3,q4, .inr q8⟩
                  rcases Hl k o' q (by omega) q1 hl q3 with f1|f1
                  rotate_left
                  . exact .inr ⟨o',q,q1,q2,q3,q4, .inr f1⟩
                  refine .inr ⟨o',q,q1,q2,q3,q4, .inl λk' nL rb=> ?_⟩
                  by_cases JV:k'<c
                  . exact q8 k' nL JV
                  . by_cases Dx:k'<i
                    . exact Fq k' (by omega) Dx
                    . rw[show k'=i by omega];exact f1
                obtain⟨o',t,b,r,ii,off,row,ao,q1,q2,q3,q4,q5,q6,q7,q8⟩:=h
                have pT:r<(s c).rows.length:=by
                  by_cases hh:r<(s c).rows.length
                  . exact hh
                  . simp only[aK,aM (show(s c).rows.length<=r by omega)]at q7;cases q7
                have il:=JP hc.toChain hI.quiet HC (aO c) ph (aO i) pT
                rcases cq k o' t b r ii off ao (by omega) q1 hl q2 q3 q4 q5 (by rw[il];exact q7) with⟨f1,f2⟩|⟨f1,f2⟩
                . rcases q8 with⟨e8,q8⟩|q8
                  . refine .inl ⟨o',t,b,r,ii,off,row,ao,q1,q2,q3,q4,q5,q6,f2, .inl ⟨e8,λk' nL rb=> ?_⟩⟩
                    by_cases JV:k'<c
                    . exact q8 k' nL JV
                    . by_cases Dx:k'<i
                      . exact Fq k' (by omega) Dx
                      . rw[show k'=i by omega];exact f1
                  . exact .inl ⟨o',t,b,r,ii,off,row,ao,q1,q2,q3,q4,q5,q6,f2, .inr ⟨q8.1,q8.2.elim λL hL=>⟨L,hL.1,λkk hk=>(hL.2 kk hk).elim λj hj=>⟨j,hj.1,by omega,hj.2.2⟩⟩⟩⟩
                . refine .inl ⟨o',t,b,r,ii,off,row,_,q1,q2,q3,q4,q5,q6,f2, .inr ⟨f1,?_⟩⟩
                  rcases q8 with⟨e8,_⟩|⟨_,L,e8,hL⟩
                  . exact⟨[ks i],by rw[e8];rfl,λkk hk=>⟨i,by omega,by omega,List.mem_singleton.1 hk⟩⟩
                  . refine⟨L++[ks i],by rw[List.foldl_append,<-e8];rfl,λkk hk=> ?_⟩
                    rcases List.mem_append.1 hk with hk|hk
                    . obtain⟨j,j1,j2,j3⟩:=hL kk hk
                      exact⟨j,j1,by omega,j3⟩
                    . exact⟨i,by omega,by omega,List.mem_singleton.1 hk⟩
            . have dr:ops[k]? =some ops[k]:=aJ (by omega)
              rcases iL k _ (by omega) (by omega) dr with h|h
              . rw[hl]at h;cases h
              . have go: ∀t b r ii off,ops[k].guard=none->ops[k].op= .load t (.tmp b)->kS ops k b=true->look (s ops.size).env b= .ptr r ii off->PU ops s ks k (i+1):=by
                  intro t b r ii off p1 p3 p5 p7
                  obtain⟨row,cb⟩:=((hc.mb k _ dr).ld t b r ii off p1 p3 (DP hc p5 p7 (aO _) (by omega))).2.2.1
                  have pT:r<(s k).rows.length:=by
                    by_cases hh:r<(s k).rows.length
                    . exact hh
                    . simp only[aK,aM (show(s k).rows.length<=r by omega)]at cb;cases cb
                  have il:=JP hc.toChain hI.quiet HC (show c<=k by omega) (show k<=i by omega) (aO i) pT
                  rcases cq k _ t b r ii off row (by omega) dr hl p1 p3 p5 p7 (by rw[il];exact cb) with⟨f1,f2⟩|⟨f1,f2⟩
                  rotate_left
                  . exact .inl ⟨_,t,b,r,ii,off,row,_,dr,p1,p3,p5,p7,cb,f2, .inr ⟨f1,[ks i],rfl,λkk hk=>⟨i,by omega,by omega,List.mem_singleton.1 hk⟩⟩⟩
                  refine .inl ⟨_,t,b,r,ii,off,row,row,dr,p1,p3,p5,p7,cb,f2, .inl ⟨rfl,λk' nL rb=> ?_⟩⟩
                  by_cases Dx:k'<i
                  . exact Fq k' (by omega) Dx
                  . rw[show k'=i by omega];exact f1
                rcases PO dr ho h with⟨t,b,t',b',z,r,r',ii,off,lK,iK,p1,p2,p3,p4,p5,p6,p7,p8,p9⟩|⟨q,p1,p2,p3,p4,p5⟩|⟨q,p1,p3,p4⟩|⟨t,b,r,ii,off,_,_,_,_,p1,p2,p3,p5,p7,_⟩|⟨t,b,r,ii,off,_,_,_,p1,p2,p3,p5,p7,_⟩
                rotate_right
                . exact go t b r ii off p1 p3 p5 p7
                rotate_left 2
                rotate_left
                . exact go t b r ii off p1 p3 p5 p7
                rotate_right
                . exact .inr ⟨_,q,dr,p1,Uh p3,λa ha=>(p4.1 a ha).1, .inr p4⟩
                rotate_left
                . rcases Hl k _ q (by omega) dr hl p3 with f1|f1
                  rotate_left
                  . exact .inr ⟨_,q,dr,p1,p3,p4, .inr f1⟩
                  refine .inr ⟨_,q,dr,p1,p3,p4, .inl λk' nL rb=> ?_⟩
                  by_cases Dx:k'<i
                  . exact Fq k' (by omega) Dx
                  . rw[show k'=i by omega];exact f1
                exact go t b r ii off p1 p3 p5 p7
      . cases hd:o.dst<;>simp [Act.put]<;>exact hI.size
      . first|exact lG.put (hI.defers.step hm hn.fr)|exact lG.put (hI.defers.step hm hn.toW.fr)
    ·
      have HA:i<d:=by omega
      have hq:=hI.quiet i o ph HA ho
      have Mq:=Va hq
      have Mr: ∀t∈o.looksAt ops,Rep cx w (look (s i).env t) (a.tmps.getD t undef):=λt ht=>by
        have HB : ∀n,c+n<=d->iY ops s val df c n t=if c+n<=i then look (s (c+n)).env t else look (s i).env t:=by
          intro n
          induction n with
          |zero=>intro _;simp only[iY,bG];rw[if_pos ph]
          | succ n ih=>
            intro hn
            obtain⟨ok,dr⟩: ∃ok,ops[c+n]? =some ok:=⟨_,aJ (show c+n<ops.size by omega)⟩
            have ih:=ih (by omega)
            simp only[iY,dr,aL]
            by_cases hk:c+n<i
            . have hA:c+(n+1)<=i:=by omega
              have RB:c+n<=i:=by omega
              rw[if_pos hA,show c+(n+1)=c+n+1 by omega,hc.toChain.DY dr (hI.quiet _ _ (by omega) (by omega) dr) t]
              rw[if_pos RB]at ih
              by_cases hd:ok.dst=some t
              . rw[if_pos ⟨seen _ _ t hk dr hd ht,hd⟩,if_pos hd]
              . rw[if_neg (λg=>hd g.2),if_neg hd,ih]
            . have HD: ¬(df (c+n)=true/\ok.dst=some t):=by
                rintro⟨g1,g2⟩
                by_cases e':c+n=i
                . rw[e',h0]at g1;cases g1
                . have nK:i<c+n:=by omega
                  rcases(Fp me nK ho dr).1 with tw|hb
                  . exact(Fz tw).2.2 g2 ht
                  . have:=nI _ _ g1 hb
                    rw[h0]at this;cases this
              have hA: ¬c+(n+1)<=i:=by omega
              rw[if_neg HD,ih,if_neg hA]
              split
              . rw[show c+n=i by omega]
              . rfl
        have:=hE t (λk o' hk hl dr hd=>by rw[seen k o' t (by omega) dr hd ht]at hl;cases hl) (λk o' hk hl dr=>CM k o' t hk hl dr ht hid)
        rw[HB (d-c) (by omega),if_neg (by omega)]at this
        exact this
      have hlen: ∀k l,c<=k->k<=l->l<=d->(s k).rows.length<=(s l).rows.length:=λk l h1 h2 h3=>JO hc.toChain hI.quiet hI.dn h1 h2 h3
      have iP: ∀k l,c<=k->k<=l->l<=d-> ∀r,r<(s k).rows.length->(s l).rows.getD r none=(s k).rows.getD r none:=λk l h1 h2 h3 r hr=>JP hc.toChain hI.quiet hI.dn h1 h2 h3 hr
      have Bh: ∀n,c+n<=d-> ∀r,r<(s i).rows.length-> ∀row,ki s df c n r=some row->(s i).rows.getD r none=some row:=by
        intro n
        induction n with
        | zero=>
          intro _ r hr row h
          simp only[ki]at h
          by_cases Vf:r<(s c).rows.length
          . rw[iP c i (aO _) ph (by omega) r Vf];exact h
          . simp only[aK,aM (show(s c).rows.length<=r by omega)]at h;cases h
        | succ n ih=>
          intro hn r hr row h
          simp only[ki]at h
          split at h
          . rename_i g
            obtain⟨g1,g2,g3⟩:=g
            have Vg:c+n<i:=by
              by_cases mq:c+n<i
              . exact mq
              . by_cases e':c+n=i
                . rw[e',h0]at g1;cases g1
                . have:=hlen i (c+n) ph (by omega) (by omega);omega
            rw[iP (c+n+1) i (by omega) (by omega) (by omega) r g3];exact h
          . exact ih (by omega) r hr row h
      have Bi: ∀n,c+n<=d-> ∀r,(s i).rows.length<=r->r<(s (i+1)).rows.length->ki s df c n r=none:=by
        intro n
        induction n with
        | zero=>
          intro _ r h1 h2
          have:=hlen c i (aO _) ph (by omega)
          simp only[ki,aK,aM (show(s c).rows.length<=r by omega),Option.getD_none]
        | succ n ih=>
          intro hn r h1 h2
          simp only[ki]
          rw[if_neg]
          . exact ih (by omega) r h1 h2
          . rintro⟨g1,g2,g3⟩
            by_cases e':c+n=i
            . rw[e',h0]at g1;cases g1
            . by_cases mq:c+n<i
              . have:=hlen (c+n+1) i (by omega) (by omega) (by omega);omega
              . have:=hlen (i+1) (c+n) (by omega) (by omega) (by omega);omega
      have oI:mf cx (s i).rows:=λr row ao g1 g2=>by
        have hr:r<(s i).rows.length:=by
          by_cases h:r<(s i).rows.length
          . exact h
          . simp only[aK,aM (show(s i).rows.length<=r by omega)]at g2;cases g2
        rw[hR]at g1
        have:=Bh (d-c) (by omega) r hr row g1
        rw[this]at g2;exact Option.some.inj g2
      have fin: ∀v w' c',JN cx w (s i).rows (s (i+1)).rows c' w'->Rep c' w' (val i) v->K (a.put o.dst v) w':=by
        intro v w' c' hn hv
        refine hK _ w' c d ⟨hI.cd,hI.dn,λk hk=>by rw[h2 k (by omega)];exact hI.pre k hk,hI.quiet,hI.wr,tv,?_,?_,hI.fw,hI.gk,c',B,hn.mem,λr=> ?_,λt ht he=> ?_,nJ.step (ks:=[]) (λk hk=>by simp [bq]at hk) hI.gk hn.toW.toK,λk hk ot=>(nz k hk (by rw[<-h2 k (by omega)];exact ot)).cq hn.toW.toK (by omega) ho,λk j hk hj ot Ao e=>oj k j hk hj (by rw[<-h2 k (by omega)];exact ot) (by rw[<-h2 j (by omega)];exact Ao) e⟩
        . cases hd:o.dst<;>simp [Act.put]<;>exact hI.size
        . first|exact lG.put (hI.defers.step hm hn.fr)|exact lG.put (hI.defers.step hm hn.toW.fr)
        . rw[hn.rows,hR,Vd ph h0 h1 h2 (d:=d) (λk nL rb=>hlen (i+1) k (by omega) (by omega) (by omega)) (by omega) (by omega)]
        . have hl: ∀k o',i<k->df k=true->ops[k]? =some o'->o'.dst=some t->o.dst=some t->False:=by
            intro k o' nK hk dr Vh Vi
            rcases(Fp me nK ho dr).1 with tw|hb
            . exact(Fz tw).1 Vi Vh
            . have:=nI _ _ hk hb
              rw[h0]at this;cases this
          rw[Vc ho ph h0 h1 h2 hl (by omega)]
          have hold:=wQ hn.bz (hE t (λk o' hk hl dr=>ht k o' hk (by rw[h2 k (by omega)];exact hl) dr) (λk o' hk hl dr=>he k o' hk (by rw[h2 k (by omega)];exact hl) dr))
          refine Uj hI.size (λu=>hc.dst i o u ho) (λhd=>by rw[if_pos hd];exact hv) (λhd=>by rw[if_neg hd];exact hold)
      have skip:val i= .dt []->(s (i+1)).rows=(s i).rows->K (a.put o.dst undef) w:=λe1 e2=>
        fin undef w cx ⟨hm,jf.refl _ _,Fr.refl _ _,λb hb=> .inl hb,λr=>by rw[e2,if_neg (by omega)],λ_ _=>⟨rfl,Iff.rfl⟩,λr g1 g2=>by rw[e2]at g2;omega⟩ (by rw[e1];exact RC _ _)
      have run:pf P G M o (bo (s i).env) (s i).rows (ks i) (val i) (s (i+1)).rows->o.mN P a w K Q:=λhX=>by
        unfold pf at hX
        rw[Mq]at hX
        refine hX.2.2 cx w a hm je oI (λr g1 g2=>by rw[hR];exact Bi (d-c) (by omega) r g1 g2) (λx hx=> ?_) K Q fin
        cases x with
        | tmp t=>
          refine Mr t ?_
          unfold Oper.looksAt
          exact gQ _ (List.mem_filterMap.2 ⟨.tmp t,by simpa using hx,rfl⟩)
        | const v=>
          simp only[bo,Act.eval]
          cases hv:FA v with
          |none=>trivial
          |some d=>exact Ms hv cx w
        |global g=>trivial
        |func f=>exact JQ f
      have hG:=hc.op i o ho
      unfold wpOp
      simp only[ho]
      unfold nb at hG
      cases hg:o.guard with
      | none=>
        simp only[hg]at hG
        have hw:Region.wanted o (yielded ops a.tmps)=true:=by simp [Region.wanted,hg]
        rw[if_pos hw]
        exact run hG
      | some jw=>
        obtain⟨j,want⟩:=jw
        simp only[hg]at hG
        obtain⟨g,g2,hG⟩:=hG
        have hr:=Mr g (by
          unfold Oper.looksAt
          refine gP _ ?_
          simp only[hg,g2];simp)
        rcases hG with⟨b,g3,g4⟩|⟨g3,_,e1,e2⟩
        rotate_left
        . rw[g3]at hr
          rw[if_neg (by rw[RD (o:=o) hg g2 hr];simp)]
          exact skip e1 e2
        rw[g3]at hr
        have hw:=RE (o:=o) hg g2 hr
        by_cases e':b=want
        . rw[if_pos e']at g4
          rw[if_pos (by rw[hw];simpa using e')]
          exact run g4
        . rw[if_neg e']at g4
          rw[if_neg (by rw[hw];simpa using e')]
          exact skip g4.2.1 g4.2.2
  ·
    have hic:i<c:=by omega
    rcases hI.pre i hic with h|h
    . rw[h0]at h;cases h
    have PZ: ∀b,kS ops i b=true->(∀k,i<k->k<c->ks k=[])->ks i=[]->look (s c).env b=look (s i).env b:=by
      intro b hb q8 q9
      have: ∀k,i<=k->k<=c->look (s k).env b=look (s i).env b:=by
        intro k
        induction k with
        |zero=>intro h1 _;rw[show i=0 by omega]
        | succ k ih=>
          intro h1 h2
          by_cases e':i=k+1
          . rw[e']
          . have dr:ops[k]? =some ops[k]:=aJ (by omega)
            rw[hc.env k _ b dr,if_neg (Jt hb (by omega) dr)]
            by_cases e2:k=i
            . rw[e2,q9,oH]
            . rw[q8 k (by omega) (by omega),oH];exact ih (by omega) (by omega)
      exact this c (by omega) (aO _)
    have oh: ∀b,kS ops i b=true->b∈o.looksAt ops->Rep cx w (look (s c).env b) (a.tmps.getD b undef):=λb hnb MT=>by
      have:=hE b (λk o' hk hl dr hd=>by
        by_cases Vg:k<i
        . rw[seen k o' b Vg dr hd MT]at hl;cases hl
        . exact Jt hnb (by omega) dr hd) (λk o' hk hl dr=>CM k o' b hk hl dr MT hid)
      rwa [YS hc (λk o' hk dr hd=>(Jt hnb (by omega) dr hd).elim)]at this
    obtain ⟨q2,q8,hN,CH⟩:o.guard=none/\((∀k,i<k->k<c->ks k=[])\/ ∀t,o.dst=some t->kS ops (i+1) t=true/\sL (look (s ops.size).env t)=true)/\pn P o (bo (s c).env) (s c).rows (val i) (s c).rows/\ ∀x∈o.op.operands,Rep cx w (bo (s c).env x) (a.eval x):=by
      rcases h with⟨o',t0,b,r,ii,off,row,ao,q1,q2,q3,q4,q5,q6,q7,q8⟩|⟨o',q,q1,q2,q3,q4,q8⟩
      . rw [ho]at q1;cases q1
        have hpc:look (s c).env b= .ptr r ii off:=DP hc q4 q5 (by omega) (by omega)
        have YW:look (s i).env b= .ptr r ii off:=DP hc q4 q5 (by omega) (by omega)
        have sN:=(hc.mb i o ho).ld t0 b r ii off q2 q3 YW
        have eg:bo (s c).env (.tmp b)= .ptr r ii off:=by simp [bo,hpc]
        have q9:((∀k,i<k->k<c->ks k=[])\/ ∀t,o.dst=some t->kS ops (i+1) t=true/\sL (look (s ops.size).env t)=true)/\pn P o (bo (s c).env) (s c).rows (val i) (s c).rows:=by
          rcases q8 with⟨e8,q8⟩|⟨⟨td,d1,d2,d3⟩,L,e8,hL⟩
          . subst e8
            exact⟨.inl q8,sN.2.2.2.1 (bo (s c).env) (s c).rows eg (by rw[q6,q7])⟩
          . refine⟨.inr λt ht=>by rw[d1]at ht;cases ht;exact⟨d2,PN d3⟩,sN.2.2.2.2 (bo (s c).env) (s c).rows row L ?_ (λkk hk=> ?_) eg q6 (by rw[q7,e8])⟩
            rotate_left
            . obtain⟨j,j1,j2,rfl⟩:=hL kk hk
              have h5:=Q6 hc d2 (PN d3) (aO _) (show i+1<=ops.size by omega)
              have h6:=hc.env i o td ho
              rw[if_pos d1,h5]at h6
              have g1:=Q6 hc d2 (PN d3) (show i+1<=j by omega) (show j<=ops.size by omega)
              have g2:=Q6 hc d2 (PN d3) (show i+1<=j+1 by omega) (show j+1<=ops.size by omega)
              have dr:ops[j]? =some ops[j]:=aJ (by omega)
              rw[hc.env j _ td dr,if_neg (Jt d2 (by omega) dr),Bu,g1,Znp d3]at g2
              rw[<-h6];exact g2
            have h5:=Q6 hc d2 (PN d3) (aO _) (show i+1<=ops.size by omega)
            have h6:=hc.env i o td ho
            rw[if_pos d1]at h6
            rw[<-h6,h5];exact d3
        refine⟨q2,q9.1,q9.2,λx hx=> ?_⟩
        have jz:x= .tmp b:=by simpa [q3,Op.operands] using hx
        rw[jz]
        refine oh b q4 ?_
        unfold Oper.looksAt
        exact gQ _ (List.mem_filterMap.2 ⟨.tmp b,by rw[q3];simp [Op.operands],rfl⟩)
      . rw [ho]at q1;cases q1
        have sN:=(hc.mb i o ho).pu q q2 (Zlc hc q3 q4 (aO _) (by omega))
        refine⟨q2,q8.imp id λg t ht=>⟨(g.2 t ht).1,YL (g.2 t ht).2⟩,sN.2.2 (bo (s c).env) (s c).rows (λx hx=> ?_),λy hy=> ?_⟩
        . cases x with
          | tmp b=>
            rcases q8 with q8|q8
            . exact PZ b (q4 b (YJ q3 hx)) q8 sN.1
            . obtain⟨g1,g2⟩:=q8.1 b (YJ q3 hx)
              show look (s c).env b=look (s i).env b
              rw[Q6 hc g1 (YL g2) (by omega) (by omega),Q6 hc g1 (YL g2) (aO _) (by omega)]
          |_=>rfl
        . cases y with
          | tmp b=>
            refine oh b (q4 b (YJ q3 hy)) ?_
            unfold Oper.looksAt
            exact gQ _ (List.mem_filterMap.2 ⟨.tmp b,by simpa using hy,rfl⟩)
          | const v=>
            simp only[bo,Act.eval]
            cases hv:FA v with
            |none=>trivial
            |some d=>exact Ms hv cx w
          |global g=>trivial
          |func f=>exact JQ f
    have oI:mf cx (s c).rows:=λr' Eo jr g1 g2=>by
      have hr:r'<(s c).rows.length:=by
        by_cases h:r'<(s c).rows.length
        . exact h
        . simp only[aK,aM (show(s c).rows.length<=r' by omega)]at g2;cases g2
      rw[hR,Zep hc hI.quiet HC hr (by omega),g2]at g1
      exact(Option.some.inj g1).symm
    have fin: ∀v w' c',JN cx w (s c).rows (s c).rows c' w'->Rep c' w' (val i) v->K (a.put o.dst v) w':=by
      intro v w' c' hn hv
      refine hK _ w' c d ⟨Vm,HC,λk hk=> ?_,hI.quiet,hI.wr,tv,?_,?_,hI.fw,hI.gk,c',B,hn.mem,λr'=> ?_,λt ht he=> ?_,nJ.step (ks:=[]) (λk hk=>by simp [bq]at hk) hI.gk hn.toW.toK,λk hk ot=>(nz k hk (by rw[<-h2 k (by omega)];exact ot)).cq hn.toW.toK (by omega) ho,λk j hk hj ot Ao e=>oj k j hk hj (by rw[<-h2 k (by omega)];exact ot) (by rw[<-h2 j (by omega)];exact Ao) e⟩
      . by_cases e':k=i
        . rw[e'];exact .inl h1
        . rw[h2 k e'];exact hI.pre k hk
      . cases hd:o.dst<;>simp [Act.put]<;>exact hI.size
      . first|exact lG.put (hI.defers.step hm hn.fr)|exact lG.put (hI.defers.step hm hn.toW.fr)
      . rw[hn.rows,hR,if_neg (by omega),RA (λk hk=>h2 _ (by omega))]
      . rw [Rz (λk hk=>h2 _ (by omega))]
        refine Uj hI.size (λu=>hc.dst i o u ho) (λhd=> ?_) (λhd=> ?_)
        ·
          have oy: ∀k o',i<k->ops[k]? =some o'->o'.dst=some t->df k=false:=λk o' hk dr sK=>by
            cases hl:df k with
            |false=>rfl
            | true=>
              rcases(Fp me hk ho dr).1 with tw|hb
              . exact((Fz tw).1 hd sK).elim
              . have:=nI _ _ hl hb
                rw[h0]at this;cases this
          have YX: ∀k o',i<k->k<c->ops[k]? =some o'->o'.dst≠some t:=λk o' nL rb dr sK=>
            ht k o' rb (by rw[h2 k (by omega)];exact oy k o' nL dr sK) dr sK
          rw[YS hc (λk o' hk dr sK=>oy _ o' (by omega) dr sK)]
          have: ∀k,i<k->k<=c->look (s k).env t=val i:=by
            rcases q8 with q8|q8
            rotate_left
            . intro k nL rb
              obtain⟨g1,g2⟩:=q8 t hd
              have:=hc.env i o t ho
              rw[if_pos hd]at this
              rw[<-this,Q6 hc g1 g2 (by omega) (by omega),Q6 hc g1 g2 (aO _) (by omega)]
            intro k
            induction k with
            |zero=>intro h;omega
            | succ k ih=>
              intro nL rb
              have dr:ops[k]? =some ops[k]:=aJ (by omega)
              by_cases e':k=i
              . subst e'
                rw[ho]at dr
                rw[hc.env k o t ho,if_pos hd]
              . rw[hc.env k _ t dr,if_neg (YX k _ (by omega) (by omega) dr),q8 k (by omega) (by omega),oH]
                exact ih (by omega) (by omega)
          rw[this c hic (aO _)]
          exact hv
        . refine wQ hn.bz (hE t (λk o' hk hl dr sK=> ?_) (λk o' hk hl dr=>he k o' hk (by rw[h2 k (by omega)];exact hl) dr))
          by_cases e':k=i
          . subst e'
            rw[ho]at dr;cases dr
            exact hd sK
          . exact ht k o' hk (by rw[h2 k e'];exact hl) dr sK
    unfold wpOp
    simp only[ho]
    have hw:Region.wanted o (yielded ops a.tmps)=true:=by simp [Region.wanted,q2]
    rw[if_pos hw]
    exact hN.2 cx w a hm je oI (λr' g1 g2=>by omega) CH K Q fin
theorem Zf8{c0:Ctx}{w0:World}{df:Nat->Bool}{a:Act}{w:World}{c d:Nat}(hI:Inv2 P G N M ops s ks val c0 w0 df a w c d)(iL:∀i,i<ops.size->df i=true):∃cx,fk N M c0 w0 cx w (s ops.size) a:=by
 obtain⟨cx,B,hm,hR,hE,nJ,nz,oj⟩:=hI.ctx
 have hd:d=ops.size:=by
  by_cases h:d<ops.size
  ·obtain⟨o',t,_,_,g1,_,g3,_⟩:=nz d (aO _) (iL d h)
   have:=hI.wr _ g1
   unfold kW at this
   rw[g3]at this;cases this
  ·have:=hI.dn;omega
 subst hd
 have Vm:=hI.cd
 have hl:∀k,k<ops.size-c->df (c+k)=true:=λk hk=>iL _ (by omega)
 refine⟨cx,hm,λr=>?_,λt=>?_,hI.size,hI.defers,hI.fw,hI.gk,nJ⟩
 ·rw[hR,Rx hc.toChain hI.quiet hI.dn (by omega) hl,show c+(ops.size-c)=ops.size by omega]
 ·have:=hE t (λk o hk h0 dr=>by rw[iL k (Array.getElem?_eq_some_iff.1 dr).1]at h0;cases h0) (λk o hk _ dr=>by have:=(Array.getElem?_eq_some_iff.1 dr).1;omega)
  rw[Rw hc.toChain hI.quiet hI.dn (by omega) hl]at this
  rwa [show c+(ops.size-c)=ops.size by omega]at this
theorem xw{c0:Ctx}{w0:World}{Q:Exit->Act->World->Prop}(hQ:∀c w a,fk N M c0 w0 c w (s ops.size) a->Q .normal a w):∀(fuel:Nat) (listed:Array Bool) (a:Act) (w:World) (c d:Nat),listed.size=ops.size->mr (λi=>listed.getD i false) ops.size<=fuel->
 Inv2 P G N M ops s ks val c0 w0 (λi=>listed.getD i false) a w c d->HE P .any ops Q fuel listed a w:=by
 intro fuel
 have AK:∀(listed:Array Bool) (i:Nat),listed.size=ops.size->(i∈Region.ready .any ops listed↔ ∃o,ops[i]?=some o/\listed.getD i false=false/\∀e∈o.after,Region.binds .any e=true->listed.getD e.on false=true):=by
  intro listed i fp
  unfold Region.ready
  rw[gY,gZ]
  constructor
  ·rintro⟨h1,h2⟩
   have ho:ops[i]?=some ops[i]:=aJ h1
   simp only[ho,aR,aG,aE,aS]at h2
   refine⟨_,ho,?_,λe he hb=>?_⟩
   ·have hl:i<listed.size:=by omega
    have:=h2.1
    simpa[aP,hl]using this
   ·have:=Array.all_eq_true'.1 h2.2 e he
    simpa[hb]using this
  ·rintro⟨o,ho,h1,h2⟩
   have cj:=(Array.getElem?_eq_some_iff.1 ho).1
   refine⟨cj,?_⟩
   simp only[ho,aR,aG,aE,aS]
   have hl:i<listed.size:=by omega
   refine⟨by simpa[aP,hl]using h1,Array.all_eq_true'.2 λe he=>?_⟩
   cases hb:Region.binds .any e with
   |false=>rfl
   |true=>simpa[hb]using h2 e he hb
 have j0:∀(listed:Array Bool),listed.size=ops.size->Region.ready .any ops listed=[]->∀i,i<ops.size->listed.getD i false=true:=by
  intro listed fp he i
  induction i using Nat.strongRecOn with
  |_ i ih=>
   intro hi
   cases hl:listed.getD i false with
   |true=>rfl
   |false=>
    exfalso
    have ho:ops[i]?=some ops[i]:=aJ hi
    have:i∈Region.ready .any ops listed:=(AK listed i fp).2 ⟨_,ho,hl,λe wO hb=>by
     have:=Ze6 me ho e wO hb
     exact ih e.on this (by omega)⟩
    rw[he]at this;cases this
 induction fuel with
 |zero=>
  intro listed a w c d fp Bj hI
  have iL:=Vk (df:=λi=>listed.getD i false) (Nat.le_zero.1 Bj)
  refine⟨?_,?_⟩
  ·rw[List.eq_nil_iff_forall_not_mem]
   intro i hi
   obtain⟨o,ho,h1,_⟩:=(AK listed i fp).1 hi
   have:=iL i (Array.getElem?_eq_some_iff.1 ho).1
   rw[h1]at this;cases this
  ·obtain⟨cx,hs⟩:=Zf8 hc me hI iL
   exact hQ cx w a hs
 |succ fuel ih=>
  intro listed a w c d fp Bj hI
  refine⟨λhe=>?_,λi hi=>?_⟩
  ·obtain⟨cx,hs⟩:=Zf8 hc me hI (j0 listed fp he)
   exact hQ cx w a hs
  ·obtain⟨o,ho,h1,h2⟩:=(AK listed i fp).1 hi
   have cj:=(Array.getElem?_eq_some_iff.1 ho).1
   have rL:(listed.setIfInBounds i true).getD i false=true:=by
    have hl:i<listed.size:=by omega
    simp[aP,hl]
   have rM:∀k,k≠i->(listed.setIfInBounds i true).getD k false=listed.getD k false:=λk hk=>by
    rw[aF,aQ (Ne.symm hk),<-aF]
   refine qw hc me (fx:=λk=>(listed.setIfInBounds i true).getD k false) hI ho h1 rL rM h2 λa' w' c' d' Vn=>?_
   refine ih _ a' w' c' d' (by simpa using fp) ?_ Vn
   have:=Vl (df:=λk=>listed.getD k false) (fx:=λk=>(listed.setIfInBounds i true).getD k false) h1 rL rM cj
   omega
end
theorem AK{ops:Array Oper}{listed:Array Bool}{i:Nat}(fp:listed.size=ops.size):i∈Region.ready .any ops listed↔ ∃o,ops[i]?=some o/\listed.getD i false=false/\∀e∈o.after,Region.binds .any e=true->listed.getD e.on false=true:=by
 unfold Region.ready
 rw[gY,gZ]
 constructor
 ·rintro⟨h1,h2⟩
  have ho:ops[i]?=some ops[i]:=aJ h1
  simp only[ho,aR,aG,aE,aS]at h2
  refine⟨_,ho,?_,λe he hb=>?_⟩
  ·have hl:i<listed.size:=by omega
   have:=h2.1
   simpa[aP,hl]using this
  ·have:=Array.all_eq_true'.1 h2.2 e he
   simpa[hb]using this
 ·rintro⟨o,ho,h1,h2⟩
  have cj:=(Array.getElem?_eq_some_iff.1 ho).1
  refine⟨cj,?_⟩
  simp only[ho,aR,aG,aE,aS]
  have hl:i<listed.size:=by omega
  refine⟨by simpa[aP,hl]using h1,Array.all_eq_true'.2 λe he=>?_⟩
  cases hb:Region.binds .any e with
  |false=>rfl
  |true=>simpa[hb]using h2 e he hb
theorem zw{r:Nat}:∀{l:List Nat} {k:Nat},r∉l->pos r l k=k+l.length
 |[],k,_=>rfl
 |x::l,k,h=>by
  simp only[List.mem_cons,not_or]at h
  simp only[pos]
  cases hb:Nat.beq x r with
  |true=>exact(h.1 (bE hb).symm).elim
  |false=>show pos r l (k+1)=_;rw[zw h.2];simp;omega
section
variable {p:List Nat} {ops:Array Oper} (hp:Uk p ops.size=true)
include hp
theorem Ul:p.length=ops.size/\(∀i,i<ops.size->i∈p)/\(∀i∈p,i<ops.size)/\p.Nodup:=by
 unfold Uk at hp
 simp only[aE]at hp
 obtain⟨h1,h2,h3,h4⟩:=hp
 exact⟨bE h1,λi hi=>nV.1 (List.all_eq_true.1 h2 i (List.mem_range.2 hi)),λi hi=>lE (List.all_eq_true.1 h3 i hi),LJ.1 h4⟩
theorem Hm{i:Nat}(hi:i<ops.size):pos i p 0<ops.size/\p[pos i p 0]?=some i:=by
 obtain⟨h1,h2,h3,h4⟩:=Ul hp
 have:=AU (h2 i hi)
 exact⟨by have:=(List.getElem?_eq_some_iff.1 this).1;omega,this⟩
theorem Ze9{i:Nat}(h:pos i p 0<ops.size):i<ops.size:=by
 obtain⟨h1,h2,h3,h4⟩:=Ul hp
 by_cases hm:i∈p
 ·exact h3 i hm
 ·rw[zw hm]at h;omega
theorem YY:(mY p ops).size=ops.size:=by
 obtain⟨h1,_⟩:=Ul hp
 simp[mY,h1]
theorem Um{k i:Nat}{o:Oper}(hk:p[k]?=some i)(ho:ops[i]?=some o):(mY p ops)[k]?=some (L4 p o):=by
 have:ops.getD i default=o:=by
  have cj:=(Array.getElem?_eq_some_iff.1 ho).1
  have:=(Array.getElem?_eq_some_iff.1 ho).2
  simp[aP,cj,this]
 simp[mY,hk,ho]
theorem Zfi(tmps:Array Value)(j:Nat):yielded (mY p ops) tmps (pos j p 0)=yielded ops tmps j:=by
 by_cases hj:j<ops.size
 ·have ho:ops[j]?=some ops[j]:=aJ hj
  have h1:=Um hp (Hm hp hj).2 ho
  simp only[yielded,h1,ho,aL]
  rfl
 ·have h1:ops[j]?=none:=cL (by omega)
  have h2:(mY p ops)[pos j p 0]?=none:=by
   refine cL ?_
   rw[YY hp]
   by_cases h:pos j p 0<ops.size
   ·exact(hj (Ze9 hp h)).elim
   ·omega
  simp only[yielded,h1,h2,Option.bind_none]
theorem Zj5{o:Oper}(tmps:Array Value):Region.wanted (L4 p o) (yielded (mY p ops) tmps)=Region.wanted o (yielded ops tmps):=by
 unfold Region.wanted L4
 cases hg:o.guard with
 |none=>rfl
 |some jw=>obtain⟨j,w⟩:=jw;simp only[Zfi hp]
theorem yw{P:Program}{Q:Exit->Act->World->Prop}{i:Nat}{K K':Act->World->Prop}{a:Act}{w:World}(hi:i<ops.size)(hK:∀a w,K' a w->K a w)(h:wpOp P (mY p ops) Q (pos i p 0) K' a w):wpOp P ops Q i K a w:=by
 have ho:ops[i]?=some ops[i]:=aJ hi
 have h1:=Um hp (Hm hp hi).2 ho
 unfold wpOp at h⊢
 simp only[ho]
 simp only[h1,Zj5 hp]at h
 split at h
 ·rename_i hw
  rw[if_pos hw]
  exact Vz (Q:=Q) hK h
 ·rename_i hw
  rw[if_neg hw]
  exact hK _ _ h
theorem Zlm{P:Program}{Q:Exit->Act->World->Prop}:∀(fuel:Nat) (listed fc:Array Bool) (a:Act) (w:World),listed.size=ops.size->fc.size=ops.size->(∀i,i<ops.size->fc.getD (pos i p 0) false=listed.getD i false)->
 HE P .any (mY p ops) Q fuel fc a w->HE P .any ops Q fuel listed a w:=by
 have fp:=YY hp
 obtain⟨f1,f2,f3,f4⟩:=Ul hp
 have up:∀(listed fc:Array Bool) (i:Nat),listed.size=ops.size->fc.size=ops.size->(∀i,i<ops.size->fc.getD (pos i p 0) false=listed.getD i false)->i∈Region.ready .any ops listed->i<ops.size/\pos i p 0∈Region.ready .any (mY p ops) fc:=by
  intro listed fc i h1 h2 h3 hi
  obtain⟨o,ho,g1,g2⟩:=(AK h1).1 hi
  have cj:=(Array.getElem?_eq_some_iff.1 ho).1
  refine⟨cj,(AK (by rw[h2,fp])).2 ⟨_,Um hp (Hm hp cj).2 ho,by rw[h3 i cj];exact g1,λe he hb=>?_⟩⟩
  simp only[L4,hH]at he
  obtain⟨e',wO,rfl⟩:=he
  have:=g2 e' wO hb
  have JU:e'.on<ops.size:=by
   by_cases h:e'.on<ops.size
   ·exact h
   ·rw[aP,dif_neg (by omega)]at this;cases this
  show fc.getD (pos e'.on p 0) false=true
  rw[h3 _ JU];exact this
 have down:∀(listed fc:Array Bool) (k:Nat),listed.size=ops.size->fc.size=ops.size->(∀i,i<ops.size->fc.getD (pos i p 0) false=listed.getD i false)->k∈Region.ready .any (mY p ops) fc->∃i,i∈Region.ready .any ops listed:=by
  intro listed fc k h1 h2 h3 hk
  obtain⟨o',iZ,g1,g2⟩:=(AK (by rw[h2,fp])).1 hk
  have cj:=(Array.getElem?_eq_some_iff.1 iZ).1
  rw[fp]at cj
  have AV:p[k]?=some p[k]:=List.getElem?_eq_getElem (by omega)
  have hi:=f3 _ (fX AV)
  have ho:ops[p[k]]?=some ops[p[k]]:=aJ hi
  have P0:pos p[k] p 0=k:=by
   have:=(Hm hp hi).2
   exact(List.getElem?_inj (by have:=(Hm hp hi).1;omega) f4).1 (this.trans AV.symm)
  have h4:=Um hp AV ho
  rw[iZ]at h4;cases h4
  refine⟨p[k],(AK h1).2 ⟨_,ho,by rw[<-h3 _ hi,P0];exact g1,λe he hb=>?_⟩⟩
  have:=g2 (CO p e) (by simp only[L4,hH];exact⟨e,he,rfl⟩) hb
  have this:fc.getD (pos e.on p 0) false=true:=this
  have JU:pos e.on p 0<ops.size:=by
   by_cases h:pos e.on p 0<ops.size
   ·exact h
   ·rw[aP,dif_neg (by omega)]at this;cases this
  rw[<-h3 _ (Ze9 hp JU)];exact this
 intro fuel
 induction fuel with
 |zero=>
  intro listed fc a w h1 h2 h3 h
  refine⟨?_,h.2⟩
  cases hr:Region.ready .any ops listed with
  |nil=>rfl
  |cons i l=>
   have:=(up listed fc i h1 h2 h3 (by rw[hr];simp)).2
   rw[h.1]at this;cases this
 |succ fuel ih=>
  intro listed fc a w h1 h2 h3 h
  refine⟨λhe=>h.1 ?_,λi hi=>?_⟩
  ·cases hr:Region.ready .any (mY p ops) fc with
   |nil=>rfl
   |cons k l=>
    obtain⟨i,hi⟩:=down listed fc k h1 h2 h3 (by rw[hr];simp)
    rw[he]at hi;cases hi
  ·obtain⟨cj,il⟩:=up listed fc i h1 h2 h3 hi
   refine yw hp cj (λa' w' hk=>ih _ _ a' w' (by simpa using h1) (by simpa using h2) (λk hk=>?_) hk) (h.2 _ il)
   have YW:=(Hm hp cj)
   have AV:=(Hm hp hk)
   have gs:∀(A:Array Bool) (x y:Nat),x<A.size->(A.setIfInBounds x true).getD y false=if x=y then true else A.getD y false:=λA x y hx=>by
    simp only[aF,Array.getElem?_setIfInBounds]
    split
    ·rename_i e;subst e;simp[hx]
    ·rfl
   rw[gs _ _ _ (by omega),gs _ _ _ (by omega)]
   by_cases e:i=k
   ·subst e;simp
   ·have gg:pos i p 0≠pos k p 0:=λe'=>by
     have:=AV.2
     rw[<-e',YW.2]at this
     exact e (Option.some.inj this)
    rw[if_neg e,if_neg gg];exact h3 k hk
end
theorem Zj3{ro:Option Nat}{P:Program}(hm:P.follows .mixedOrders=true){T:ff}{G:List ba}{N M id:Nat}{ops:Array Oper}{st:St}{Q:Ex->St->Prop}(hT:jt P T)(hG:jO P G){p:List Nat}(hp:Uk p ops.size=true)(h:lF T G N M (mY p ops) (mY p ops).toList st λst=>cg (PR G (mY p ops) st.env) (Q .normal st)):tz ro P N M (.region id ops true) st Q:=by
 intro c0 w0 c w a hs
 have hs:=hs.drew
 refine Qu8 hm ?_
 refine Zlm hp ops.size _ (gN ops.size false) a _ (by simp) (by simp) (λi hi=>by simp[aP,(Hm hp hi).1,hi]) ?_
 obtain⟨s,ks,val,h1,h2,h3,h4,h5,h6⟩:=Zex hT hG (mY p ops).toList 0 st (by simp) h
 have hc:Ui P G N M (mY p ops) s ks val:=⟨⟨λi o ho=>h3 i o (aT _) ho,λi o t ho=>h4 i o t (aT _) ho,λi o t ho=>h5 i o t (aT _) ho⟩,λi o ho=>h6 i o (aT _) ho⟩
 have fp:s (0+(mY p ops).toList.length)=s (mY p ops).size:=by simp
 rw[fp]at h2
 obtain⟨hd,h2⟩:=c7.1 h2
 have lJ:=YY hp
 obtain⟨d,g1,g2,g3,g4⟩:=Mo G (mY p ops) _ 0 rfl (aT _)
 have hz:∀i,(gN (mY p ops).size false).getD i false=false:=λi=>by
  by_cases h:i<(mY p ops).size
  ·simp[aP,h]
  ·simp[aP,h]
 rw[<-lJ]
 refine xw hc hd (Q:=λe a' w'=>∃ex jn c',mu e=some ex/\Q ex jn/\fk N M c0 w0 c' w' jn a') (λc w a jd=>⟨_,_,c,rfl,h2,jd⟩) (mY p ops).size _ a _ 0 d (by simp) (Vj _ _)
  ⟨g1,g2,λi hi=>by omega,g3,g4,λj hj=>by simp[hz]at hj,hs.size,hs.defers,hs.fw,hs.gk,c,λ_=>0,hs.mem,λr=>?_,λt _ _=>?_,hs.reach,λi _ hl=>by simp[hz]at hl,λi j _ _ hl=>by simp[hz]at hl⟩
 ·rw[Qp (λi _=>hz _),h1];exact hs.rows r
 ·rw[Ry (λi _=>hz _),h1];exact hs.env t
theorem vw{P:Program}(hm:P.follows .mixedOrders=true):rF P:=by
 intro ro T G N M id ops st Q hT hG h
 unfold uu at h
 split at h
 ·rename_i hd
  exact za hm ro T G N M id ops st Q hT hG hd h
 ·obtain⟨h1,h2⟩:=c7.1 h
  exact Zj3 hm hT hG h1 h2
