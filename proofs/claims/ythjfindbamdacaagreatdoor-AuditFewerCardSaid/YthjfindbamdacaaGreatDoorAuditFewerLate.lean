import Derived.Test.YthjfindbamdacaaGreatDoorAuditFewerDraw
open List renaming mem_cons_self->gW,getD->aK,getElem?_eq_none->aM,mem_of_getElem?->fX,mem_append_left->gQ,mem_append_right->gP,mem_filter->gY,mem_range->gZ
open Array renaming mem_toList_iff->gX,toArray_toList->bS,getElem?_eq_getElem->aJ,getElem?_setIfInBounds_ne->aQ,getD->aP,getD_eq_getD_getElem?->aF,getElem?_eq_none->cL,mem_map->hH,replicate->gN
open Option renaming bind_some->aL,map_some->aR,getD_some->aG
open Bool renaming or_eq_true->aI,false_eq_true->aN,not_eq_true'->aS
open Nat renaming lt_of_lt_of_le->bI,le_refl->aO,add_zero->bG,zero_le->aT
set_option linter.all false
namespace Go.GD
open Go
set_option linter.unusedSectionVars false
theorem Z99{pl:Bool}{ty:rp}{d:D}{K:D->Prop}(h:uT pl ty d K):∃d',K d'/\∀K2:D->Prop,K2 d'->uT pl ty d K2:=by
 cases ty<;>simp only[uT]at h⊢
 ·exact⟨_,(db.1 h).2,λK2 h2=>db.2 ⟨(db.1 h).1,h2⟩⟩
 ·exact⟨_,(db.1 h).2,λK2 h2=>db.2 ⟨(db.1 h).1,h2⟩⟩
 ·exact⟨_,(db.1 h).2,λK2 h2=>db.2 ⟨(db.1 h).1,h2⟩⟩
 ·cases pl
  ·simp only[D.cq]at h⊢
   exact⟨_,(db.1 h).2,λK2 h2=>db.2 ⟨(db.1 h).1,h2⟩⟩
  ·exact⟨_,(db.1 h).2,λK2 h2=>db.2 ⟨(db.1 h).1,h2⟩⟩
 ·cases pl
  ·simp only[D.cq]at h⊢
   exact⟨_,(db.1 h).2,λK2 h2=>db.2 ⟨(db.1 h).1,h2⟩⟩
  ·cases d<;>first|exact h.elim|exact⟨_,h,λK2 h2=>h2⟩
theorem Qsq{pl:Bool}{e:List D}:∀{dd:List rp} {off:Nat} {K:List D->Prop},JX pl e dd off K->∃ds,K ds/\∀K2:List D->Prop,K2 ds->JX pl e dd off K2
 |[],off,K,h=>⟨[],h,λK2 h2=>h2⟩
 |t::ts,off,K,h=>by
  simp only[JX]at h⊢
  obtain⟨d,hd,h1⟩:=Z99 h
  obtain⟨ds,EA,h2⟩:=Qsq hd
  exact⟨_,EA,λK2 hk=>h1 _ (h2 _ hk)⟩
theorem Vw{pl:Bool}{ti:TI}{e:List D}{off:Nat}{K:D->Prop}(h:uU pl ti e off K):∃d,K d/\∀K2:D->Prop,K2 d->uU pl ti e off K2:=by
 unfold uU at h
 cases hg:ti.kind.isAgg with
 |true=>
  simp only[hg]at h
  obtain⟨ds,h1,h2⟩:=Qsq h
  exact⟨_,h1,λK2 hk=>by unfold uU;simp only[hg];exact h2 _ hk⟩
 |false=>
  simp only[hg]at h
  split at h
  ·rename_i y hy
   obtain⟨d,h1,h2⟩:=Z99 h
   exact⟨_,h1,λK2 hk=>by unfold uU;simp only[hg,hy];exact h2 _ hk⟩
  ·exact h.elim
theorem Zg1{T:fq}{t:TypeId}{r i off:Nat}{R:Rows}{K:D->Rows->Prop}(h:Ac T t (.ptr r i off) R K):
 ∃d,K d R/\(∃row,R.getD r none=some row)/\∀R2:Rows,R2.getD r none=R.getD r none->Ac T t (.ptr r i off) R2 λd' R'=>d'=d/\R'=R2:=by
 unfold Ac at h
 cases hT:T.get t with
 |none=>simp only[hT]at h
 |some ti=>
  simp only[hT]at h
  cases hr:R.getD r none with
  |none=>simp only[hr]at h
  |some row=>
   obtain⟨box,ty,sz,es⟩:=row
   simp only[hr,db]at h
   obtain⟨h0,h⟩:=h
   obtain⟨d,h1,h2⟩:=Vw h
   refine⟨d,h1,?_,λR2 uR=>?_⟩
   ·exact⟨_,rfl⟩
   ·unfold Ac
    simp only[hT,uR,db]
    exact⟨h0,h2 _ (by simp)⟩
theorem Zok{d:D}(h:pO d=true)(ks:List Nat):d.gq ks=d.ek ks:=by cases d<;>first|rfl|cases h
theorem Zpd{pl:Bool}{ty:rp}{d d':D}{ks:List Nat}(h:uT pl ty d λx=>x=d')(hd:d'.ek ks=d'):d.ek ks=d:=by
 cases ty<;>simp only[uT]at h
 ·cases d<;>first|rfl|(simp[D.isInt,db]at h;done)
 ·cases d<;>first|rfl|(simp[D.isBool,db]at h;done)
 ·cases d<;>first|rfl|(simp[D.isStr,db]at h;done)
 ·cases pl
  ·simp only[D.cq,db]at h
   rw[h.2];exact hd
  ·simp only[db]at h
   cases d<;>first|rfl|(simp[D.F8,db]at h;done)
 ·cases pl
  ·simp only[D.cq,db]at h
   rw[h.2];exact hd
  ·cases d<;>first|exact h.elim|rfl
theorem Z8j{ks:List Nat}:∀{l:List D} {j:Nat},(D.kF ks l).getD j .dead=(l.getD j .dead).ek ks
 |[],_=>rfl
 |_::_,0=>rfl
 |_::l,j+1=>Z8j (l:=l) (j:=j)
theorem Zkc(ks:List Nat)(row:Row)(i off:Nat):((row.kill ks).es.get i).getD off .dead=(row.es.get i).getD off .dead\/((row.kill ks).es.get i).getD off .dead=((row.es.get i).getD off .dead).ek ks:=by
 unfold Row.kill
 split
 ·rename_i ty sz e
  cases i with
  |zero=>exact .inr Z8j
  |succ i=>exact .inl rfl
 ·exact .inl rfl
theorem Zk3{pl:Bool}{ti:TI}{row:Row}{i off:Nat}{v:D}{ks:List Nat}(h:uU pl ti (row.es.get i) off λx=>x=v)(hv:pO v=true)(hk:v.ek ks=v):uU pl ti ((row.kill ks).es.get i) off λx=>x=v:=by
 unfold uU at h⊢
 cases hg:ti.kind.isAgg with
 |true=>
  simp only[hg]at h
  obtain⟨ds,h1,_⟩:=Qsq h
  rw[<-h1]at hv;cases hv
 |false=>
  simp only[hg]at h⊢
  split at h
  ·rename_i y hy
   have e:((row.kill ks).es.get i).getD off .dead=(row.es.get i).getD off .dead:=by
    rcases Zkc ks row i off with e|e
    ·exact e
    ·rw[e];exact Zpd h hk
   rw[e];exact h
  ·exact h.elim
theorem Qzh{pl:Bool}{ti:TI}{i off:Nat}{v:D}(hv:pO v=true):∀{L:List (List Nat)} {row:Row},(∀kk∈L,v.ek kk=v)->(uU pl ti (row.es.get i) off λx=>x=v)->uU pl ti ((L.foldl (λr k=>Row.kill k r) row).es.get i) off λx=>x=v
 |[],_,_,h=>h
 |k::L,row,hL,h=>Qzh hv (L:=L) (row:=row.kill k) (λkk hk=>hL kk (List.mem_cons_of_mem _ hk)) (Zk3 h hv (hL k (gW ..)))
theorem Z2l:∀(L:List (List Nat)) (row:Row),(L.foldl (λr k=>Row.kill k r) row).box=row.box/\(L.foldl (λr k=>Row.kill k r) row).sz=row.sz
 |[],_=>⟨rfl,rfl⟩
 |k::L,row=>by
  obtain⟨k1,k2,k3,k4⟩:=wC k row
  obtain⟨h1,h2⟩:=Z2l L (row.kill k)
  exact⟨h1.trans k1,h2.trans k3⟩
theorem Zpc{T:fq}{t:TypeId}{r i off:Nat}{R R2:Rows}{v:D}{row:Row}{L:List (List Nat)}(h:Ac T t (.ptr r i off) R λd' R'=>d'=v/\R'=R)(hv:pO v=true)(hL:∀kk∈L,v.ek kk=v)(hr:R.getD r none=some row)(uR:R2.getD r none=some (L.foldl (λr k=>Row.kill k r) row)):
 Ac T t (.ptr r i off) R2 λd' R'=>d'=v/\R'=R2:=by
 obtain⟨s1,s2⟩:=Z2l L row
 unfold Ac at h⊢
 cases hT:T.get t with
 |none=>simp only[hT]at h
 |some ti=>
  simp only[hT,hr]at h
  simp only[hT,uR]
  obtain⟨box,ty,sz,es⟩:=row
  simp only at h s1 s2
  generalize cg:L.foldl (λr k=>Row.kill k r) (⟨box,ty,sz,es⟩:Row)=jA at s1 s2⊢
  obtain⟨Rl,ty2,sz2,es2⟩:=jA
  simp only at s1 s2⊢
  subst s1;subst s2
  simp only[db]at h⊢
  refine⟨h.1,?_⟩
  have hx:uU (!Rl) ti (es.get i) off λx=>x=v:=by
   obtain⟨d,h1,h2⟩:=Vw h.2
   exact h2 _ h1.1
  have:=Qzh (L:=L) (row:=⟨Rl,ty,sz2,es⟩) hv hL hx
  rw[cg]at this
  obtain⟨d,h1,h2⟩:=Vw this
  exact h2 _ ⟨h1,by first|trivial|rfl⟩
theorem Zav{T:fq}{t:TypeId}{r i off:Nat}{d:D}{R:Rows}{K:D->Rows->Prop}(h:HV T t (.ptr r i off) d R K):
 ∃R',K .dead R'/\(∀r',r'≠r->R'.getD r' none=R.getD r' none)/\HV T t (.ptr r i off) d R λd' R2=>d'=.dead/\R2=R':=by
 unfold HV at h
 cases hT:T.get t with
 |none=>simp only[hT]at h
 |some ti=>
  simp only[hT]at h
  cases hr:R.getD r none with
  |none=>simp only[hr]at h
  |some row=>
   obtain⟨box,ty,sz,es⟩:=row
   simp only[hr,db]at h
   obtain⟨h0,h⟩:=h
   have rA:∀(x:Option Row) (r':Nat),r'≠r->(R.set r x).getD r' none=R.getD r' none:=λx r' h=>by
    simp only[aK,List.getElem?_set_ne (Ne.symm h)]
   cases box with
   |true=>
    simp only[D.fk,nz]at h
    refine⟨_,h,rA _,?_⟩
    unfold HV
    simp only[hT,hr,db,D.fk,nz]
    exact⟨h0,by simp⟩
   |false=>
    simp only[nz]at h
    refine⟨_,h.2,rA _,?_⟩
    unfold HV
    simp only[hT,hr,db,nz]
    exact⟨h0,h.1,by simp⟩
structure Vx(P:Program)(o:Oper)(row:Row)(arr:Array Value):Prop where
 box:row.box=true
 sz:0<row.sz
 cells:∃e,row.es=.gen [e]/\e.length=row.sz/\arr.size=row.sz/\∀(c:Ctx) (w:World),kO c w e arr 0
 run:∀(ev:Operand->Value) (w:World),(execOp ev o).run P w=.ok (.value (.pointer (some ⟨w.heap.size,0,none⟩))) (w.alloc (.cells arr row.ty))
theorem Zqp{P:Program}{T:fq}(hT:jB P T){o:Oper}{t:TypeId}(ho:o.op=.alloc t){k:TK}{sz b:Nat}{cs:List rp}{ds:List D}{e:Bool}(ht:T.get t=some ⟨k,sz,b,cs,some ds,e⟩)(h0:0<sz)(hl:ds.length=sz):∃arr,Vx P o ⟨true,t,sz,.gen [ds]⟩ arr:=by
 obtain⟨i,u,hi,hu,hz,_,_,_,hzero⟩:=JR hT ht
 have hb:∀(c:Ctx) (w:World),Vl c w ⟨true,t,sz,.gen [ds]⟩ u.cells:=λc w=>Zk1 h0 hl (J1 hz c w)
 have ga:u.cells.size=sz:=by have:=P8 hz;simp at this;omega
 refine⟨u.cells,⟨rfl,h0,⟨ds,rfl,hl,ga,λc w=>?_⟩,λev w=>?_⟩⟩
 ·have:=(hb c w).2
  simp only[if_true]at this
  obtain⟨e',h1,_,_,h4⟩:=this
  cases h1;exact h4
 ·simp only[execOp,ho,Instr.alloc,Sem.run_bind,hzero,Result.andThen_ok,Qx2,Sem.run_pure]
structure Kg(P:Program)(G:List bc)(o:Oper)(env:List (Nat×D))(R:Rows)(ks:List Nat)(val:D)(R':Rows):Prop where
 ld:∀t a r ii off,o.guard=none->o.op=.load t (.tmp a)->look env a=.ptr r ii off->ks=[]/\R'=R/\(∃row,R.getD r none=some row)/\(∀(ev:Operand->D) (R2:Rows),ev (.tmp a)=.ptr r ii off->R2.getD r none=R.getD r none->pT P o ev R2 val R2)/\∀(ev:Operand->D) (R2:Rows) row (L:List (List Nat)),pO val=true->(∀kk∈L,val.ek kk=val)->ev (.tmp a)=.ptr r ii off->R.getD r none=some row->R2.getD r none=some (L.foldl (λr k=>Row.kill k r) row)->pT P o ev R2 val R2
 st:∀t b x r ii off,o.guard=none->o.op=.store t (.tmp b) x->look env b=.ptr r ii off->ks=[]/\∀r',r'≠r->R'.getD r' none=R.getD r' none
 pu:∀q,o.guard=none->mg env o.op=some q->ks=[]/\R'=R/\∀(ev:Operand->D) (R2:Rows),(∀x∈o.op.operands,ev x=bz env x)->pT P o ev R2 val R2
 cl:∀f args dd,o.guard=none->o.op=.call ⟨.value (.func f),args,dd⟩->(pr G f=none/\Cb G f=false)->ks=[]
 al:∀t,o.guard=none->o.op=.alloc t->ks=[]/\∃row arr,Vx P o row arr/\val=.ptr R.length 0 0/\R'=R++[some row]
 ap2:∀args dd,o.guard=none->o.op=.call ⟨.builtin .append,args,dd⟩->∀r row,R.getD r none=some row->cb r ks=false->R'.getD r none=some (row.kill ks)
 ap:∀args dd x l,o.guard=none->o.op=.call ⟨.builtin .append,args,dd⟩->args.toList=.tmp x::l->Kh (look env x)=true->ks=[]/\∀r row,R.getD r none=some row->R'.getD r none=some row
theorem Bl{a:Nat}:∀{l:List Operand},a∈mV l↔Operand.tmp a∈l
 |[]=>by simp[mV]
 |x::l=>by cases x<;>simp[mV,Bl (l:=l)]
theorem Zkf{op:Op}{q:List Nat}(h:pP op=some q){a:Nat}(ha:Operand.tmp a∈op.operands):a∈q:=by
 unfold pP at h
 split at h
 ·cases h;rw[Bl];simpa[Op.operands]using ha
 ·cases h;rw[Bl];simpa[Op.operands]using ha
 ·cases h;rw[Bl];simpa[Op.operands]using ha
 ·cases h;rw[Bl];simpa[Op.operands]using ha
 ·cases h;rw[Bl];simpa[Op.operands]using ha
 ·cases h;rw[Bl];simpa[Op.operands]using ha
 ·cases h
theorem Zdr{G:List bc}{op:Op}{q:List Nat}(h:pP op=some q):su G op=false/\Gy op=false/\(∀t x,op≠.load t x)/\(∀t x y,op≠.store t x y)/\∀c,op≠.call c:=by
 unfold pP at h
 split at h<;>first|exact⟨rfl,rfl,λ_ _ h=>(by cases h),λ_ _ _ h=>(by cases h),λ_ h=>(by cases h)⟩|cases h
theorem xT{T:fq}{op:Op}{q:List Nat}(hq:pP op=some q){ev:Operand->D}{R:Rows}{K:D->Rows->Prop}(h:ie T op ev R K):
 ∃val,K val R/\∀(il:Operand->D) (R2:Rows),(∀x∈op.operands,il x=ev x)->ie T op il R2 λd R'=>d=val/\R'=R2:=by
 unfold pP at hq
 split at hq
 ·rename_i x
  simp only[ie,D.cq]at h⊢
  exact⟨_,h,λil R2 he=>⟨he x (by simp[Op.operands]),trivial⟩⟩
 ·rename_i x
  simp only[ie,D.cq]at h⊢
  exact⟨_,h,λil R2 he=>⟨he x (by simp[Op.operands]),trivial⟩⟩
 ·rename_i x n
  simp only[ie]at h⊢
  split at h
  ·rename_i ds EA
   simp only[db,D.cq]at h
   refine⟨_,h.2,λil R2 he=>?_⟩
   rw[he x (by simp[Op.operands]),EA]
   simp only[db,D.cq]
   exact⟨h.1,trivial,trivial⟩
  ·exact h.elim
 ·rename_i x
  simp only[ie]at h⊢
  split at h
  ·rename_i hx
   refine⟨_,h,λil R2 he=>?_⟩
   rw[he x (by simp[Op.operands]),hx]
   simp
  ·rename_i hx
   refine⟨_,h,λil R2 he=>?_⟩
   rw[he x (by simp[Op.operands]),hx]
   simp
  ·exact h.elim
 ·rename_i t x f
  simp only[ie]at h⊢
  split at h
  ·simp only[db]at h⊢
   obtain⟨h0,h⟩:=h
   split at h
   ·rename_i hx
    refine⟨_,h,λil R2 he=>⟨h0,?_⟩⟩
    rw[he x (by simp[Op.operands]),hx]
    simp
   ·rename_i hx
    refine⟨_,h,λil R2 he=>⟨h0,?_⟩⟩
    rw[he x (by simp[Op.operands]),hx]
    simp
   ·exact h.elim
  ·exact h.elim
 ·rename_i t len parts
  simp only[ie]at h⊢
  obtain⟨val,h1,h2⟩:=Zlj h
  exact⟨val,h1,λil R2 he=>h2 il R2 λp hp=>he p.2 (by simp[Op.operands];exact⟨p.1,by simpa using hp⟩)⟩
 ·cases hq
theorem vw{T:fq}{G:List bc}{N M:Nat}{o:Oper}{q:List Nat}(hq:pP o.op=some q){st:St}{K:St->Prop}(h:lZ T G N M o st K):ie T o.op (bz st.env) st.rows λd R=>st.put N o.dst d R K:=by
 obtain⟨dst,op,type,pos,after,guard⟩:=o
 simp only at hq⊢
 unfold pP at hq
 split at hq<;>first|exact h|cases hq
theorem zaz{T:fq}{op:BinOp}{t:TypeId}{x y:D}{K:D->Prop}(h:tg T op t x y K):∃val,K val/\∀K',K' val->tg T op t x y K':=by
 unfold tg at h⊢
 split at h
 ·split at h
  ·simp only[db]at h⊢;exact⟨_,h.2,λK' h'=>⟨h.1,h'⟩⟩
  ·simp only[db]at h⊢;exact⟨_,h.2,λK' h'=>⟨h.1,h'⟩⟩
  ·rename_i n1 n2
   simp only[db]at h⊢
   obtain⟨h1,h⟩:=h
   unfold Vi at h⊢
   split at h<;>first|exact⟨_,h,λK' h'=>⟨h1,h'⟩⟩|(simp only[db]at h⊢;exact⟨_,h.2,λK' h'=>⟨h1,h.1,h'⟩⟩)|exact h.elim
 ·split at h<;>first|exact⟨_,h,λK' h'=>h'⟩|(simp only[db]at h⊢;exact⟨_,h.2,λK' h'=>⟨h.1,h'⟩⟩)|exact h.elim
 ·split at h
  ·split at h<;>first|exact⟨_,h,λK' h'=>h'⟩|exact h.elim
  ·exact h.elim
 ·split at h
  ·simp only[db]at h⊢
   obtain⟨h1,h⟩:=h
   split at h<;>first|exact⟨_,h,λK' h'=>⟨h1,h'⟩⟩|exact h.elim
  ·exact h.elim
 ·exact h.elim
theorem zT{T:fq}{s d:TypeId}{x:D}{K:D->Prop}(h:MP T s d x K):∃val,K val/\∀K',K' val->MP T s d x K':=by
 unfold MP at h⊢
 split at h
 ·split at h
  ·exact⟨_,h,λK' h'=>h'⟩
  ·exact h.elim
 ·split at h
  ·exact⟨_,h,λK' h'=>h'⟩
  ·exact h.elim
 ·exact h.elim
theorem Zbu{place:Nat->Option (Nat×Nat)}{ev:Operand->D}:∀{parts:List (Nat×Operand)} {cs:List D} {K:List D->Prop},Gd place ev parts cs K->∃l,K l/\∀(il:Operand->D) (K':List D->Prop),(∀p∈parts,il p.2=ev p.2)->K' l->Gd place il parts cs K'
 |[],cs,K,h=>by
  simp only[Gd,D.fk]at h⊢
  exact⟨_,h,λil K' _ h'=>h'⟩
 |(i,x)::ps,cs,K,h=>by
  simp only[Gd]at h⊢
  split at h
  ·rename_i off n hp
   simp only[db]at h
   obtain⟨h1,h⟩:=h
   obtain⟨l,g1,g2⟩:=Zbu h
   refine⟨l,g1,λil K' he h'=>?_⟩
   have hx:=he (i,x) (by simp)
   simp only at hx
   simp only[hx,db]
   exact⟨h1,g2 il K' (λp hpp=>he p (by simp[hpp])) h'⟩
  ·exact h.elim
theorem qx{T:fq}{t:TypeId}{parts:List (Nat×Operand)}{ev:Operand->D}{R:Rows}{K:D->Rows->Prop}(h:MR T t parts ev R K):∃val,K val R/\∀(il:Operand->D) (R2:Rows),(∀p∈parts,il p.2=ev p.2)->MR T t parts il R2 λd R'=>d=val/\R'=R2:=by
 unfold MR at h⊢
 split at h
 ·simp only[db]at h⊢
  obtain⟨h1,h⟩:=h
  obtain⟨l,g1,g2⟩:=Zbu h
  exact⟨_,g1,λil R2 he=>⟨h1,g2 il _ he (by simp)⟩⟩
 ·simp only[db]at h⊢
  obtain⟨h1,h⟩:=h
  obtain⟨l,g1,g2⟩:=Zbu h
  exact⟨_,g1,λil R2 he=>⟨h1,g2 il _ he (by simp)⟩⟩
 ·exact h.elim
theorem Z44{T:fq}{t:TypeId}{str:List UInt8}{lo hi:Option Operand}{ev:Operand->D}{R:Rows}{K:D->Rows->Prop}(h:MQ T t (.str str) lo hi ev R K):∃val,K val R/\∀(il:Operand->D) (R2:Rows),(∀y,lo=some y->il y=ev y)->(∀y,hi=some y->il y=ev y)->MQ T t (.str str) lo hi il R2 λd R'=>d=val/\R'=R2:=by
 have Rm:∀(x:Option Operand) (n:Int) (il:Operand->D),(∀y,x=some y->il y=ev y)->sg x il n=sg x ev n:=λx n il he=>by
  unfold sg
  cases x with
  |none=>rfl
  |some y=>simp only[he y rfl]
 unfold MQ at h⊢
 split at h
 ·rename_i x1 x2 x3 x4 x5 ht
  simp only at h
  split at h
  ·rename_i l hh e1 e2
   simp only[db]at h
   refine⟨_,h.2,λil R2 he1 he2=>?_⟩
   simp only[Rm _ _ il he1,Rm _ _ il he2,e1,e2,db]
   exact⟨h.1,trivial,trivial⟩
  ·exact h.elim
 ·simp only at h
 ·exact h.elim
 ·exact h.elim
theorem xx{T:fq}{env:List (Nat×D)}{op:Op}{q:List Nat}(hq:mg env op=some q){R:Rows}{K:D->Rows->Prop}(h:ie T op (bz env) R K):
    ∃val,K val R/\ ∀(il:Operand->D) (R2:Rows),(∀x∈op.operands,il x=bz env x)->ie T op il R2 λd R'=>d=val/\R'=R2:=by
  unfold mg at hq
  split at hq
  . rename_i q' hp;exact xT hp h
  . split at hq
    . rename_i t parts hn
      simp only[ie]at h⊢
      obtain⟨val,g1,g2⟩:=qx h
      exact⟨val,g1,λil R2 he=>g2 il R2 λp hp=>he p.2 (by simp [Op.operands];exact⟨p.1,by simpa using hp⟩)⟩
    . rename_i op' t x y ty hn
      simp only[ie]at h⊢
      obtain⟨val,g1,g2⟩:=zaz h
      refine⟨val,g1,λil R2 he=> ?_⟩
      rw[he x (by simp [Op.operands]),he y (by simp [Op.operands])]
      exact g2 _ (by simp)
    . rename_i op' t x hn
      simp only[ie]at h⊢
      split at h
      all_goals first
        |exact h.elim
        | (rename_i hx
           refine⟨_,h,λil R2 he=> ?_⟩
           rw[he x (by simp [Op.operands]),hx]
           simp)
    . rename_i s d x hn
      simp only[ie]at h⊢
      obtain⟨val,g1,g2⟩:=zT h
      refine⟨val,g1,λil R2 he=> ?_⟩
      rw[he x (by simp [Op.operands])]
      exact g2 _ (by simp)
    . rename_i s x f hn
      simp only[ie]at h⊢
      split at h
      . split at h
        . rename_i cs ti hx ht
          simp only[db]at h
          obtain⟨h1,h⟩:=h
          split at h
          . rename_i Dd
            simp only[D.fk]at h
            refine⟨_,h,λil R2 he=> ?_⟩
            simp only[he x (by simp [Op.operands]),hx,ht,db,Dd,D.fk]
            exact⟨h1,trivial,trivial⟩
          . rename_i Dd
            simp only[db,D.cq]at h
            refine⟨_,h.2,λil R2 he=> ?_⟩
            simp only[he x (by simp [Op.operands]),hx,ht,db,Dd,D.cq]
            exact⟨h1,h.1,trivial,trivial⟩
        . exact h.elim
      . exact h.elim
    . rename_i t x y hn
      simp only[ie]at h⊢
      split at h
      . rename_i ht hx hy
        simp only[db]at h
        refine⟨_,h.2,λil R2 he=> ?_⟩
        simp only[he x (by simp [Op.operands]),he y (by simp [Op.operands]),hx,hy,ht,db]
        exact⟨h.1,trivial,trivial⟩
      . rename_i ht hx hy
        simp only[db]at h
        obtain⟨h1,h⟩:=h
        split at h
        . rename_i An
          refine⟨_,h.2,λil R2 he=> ?_⟩
          simp only[he x (by simp [Op.operands]),he y (by simp [Op.operands]),hx,hy,ht,db,An]
          exact⟨h1,h.1,trivial,trivial⟩
        . rename_i An
          refine⟨_,h.2,λil R2 he=> ?_⟩
          simp only[he x (by simp [Op.operands]),he y (by simp [Op.operands]),hx,hy,ht,db,An]
          exact⟨h1,h.1,trivial,trivial⟩
        . exact h.elim
      . exact h.elim
    . rename_i t x y z hn
      split at hq
      . rename_i str hx
        simp only[ie,hx]at h⊢
        obtain⟨val,g1,g2⟩:=Z44 h
        refine⟨val,g1,λil R2 he=> ?_⟩
        rw[he x (by simp [Op.operands]),hx]
        exact g2 il R2 (λu hu=>he u (by cases hu;simp [Op.operands])) (λu hu=>he u (by cases hu;simp [Op.operands]))
      . cases hq
    . rename_i t x y hn
      split at hq
      . rename_i str hx
        simp only[ie,hx]at h⊢
        obtain⟨val,g1,g2⟩:=Z44 h
        refine⟨val,g1,λil R2 he=> ?_⟩
        rw[he x (by simp [Op.operands]),hx]
        exact g2 il R2 (λu hu=>he u (by cases hu;simp [Op.operands])) (λu hu=>he u (by cases hu))
      . cases hq
    . rename_i t x y hn
      split at hq
      . rename_i str hx
        simp only[ie,hx]at h⊢
        obtain⟨val,g1,g2⟩:=Z44 h
        refine⟨val,g1,λil R2 he=> ?_⟩
        rw[he x (by simp [Op.operands]),hx]
        exact g2 il R2 (λu hu=>he u (by cases hu)) (λu hu=>he u (by cases hu;simp [Op.operands]))
      . cases hq
    . rename_i t x y hn
      split at hq
      . rename_i sz es fr hx
        simp only[ie,hx]at h⊢
        split at h
        . rename_i k n hy
          unfold Vk at h⊢
          split at h
          . rename_i ht
            simp only[db]at h
            refine⟨_,h.2,λil R2 he=> ?_⟩
            simp only[he x (by simp [Op.operands]),he y (by simp [Op.operands]),hx,hy,ht,db]
            exact⟨h.1,trivial,trivial⟩
          . simp only[db]at h
            exact h.2.elim
          . exact h.elim
        . exact h.elim
      . cases hq
    . rename_i t x hn
      split at hq
      . rename_i sz es i off hx
        simp only[ie,hx]at h⊢
        unfold Ac at h⊢
        split at h
        . exact h.elim
        . rename_i ti ht
          simp only[db]at h
          obtain⟨d,g1,g2⟩:=Vw h.2
          refine⟨d,g1,λil R2 he=> ?_⟩
          simp only[he x (by simp [Op.operands]),hx,ht,db]
          exact⟨h.1,g2 _ (by simp)⟩
      . cases hq
    . rename_i args dd hn
      split at hq
      . rename_i x gg
        have hxm:x∈(Op.call {callee:= .builtin .len,args:=args,argTypes:=dd}).operands:=by simp [Op.operands,Call.operands];rw[<-gX,gg];simp
        simp only[ie,gg]at h⊢
        split at h
        . rename_i y t e1 e2
          cases e1
          rw[e2]at*
          split at hq
          . rename_i str hx
            simp only[hx]at h⊢
            unfold tp at h⊢
            split at h
            . simp only at h
              exact⟨_,h,λil R2 he=>by simp only[he x hxm,hx];simp⟩
            . exact h.elim
            . exact h.elim
          . rename_i sz es fr hx
            simp only[hx]at h⊢
            unfold tp at h⊢
            split at h
            . exact h.elim
            . simp only at h
              exact⟨_,h,λil R2 he=>by simp only[he x hxm,hx];simp⟩
            . exact h.elim
          . cases hq
        . exact h.elim
      . cases hq
    . cases hq
theorem Z2e{env:List (Nat×D)}{op:Op}{q:List Nat}(h:mg env op=some q){a:Nat}(ha:Operand.tmp a∈op.operands):a∈q:=by
 unfold mg at h
 split at h
 ·cases h;exact Zkf (by assumption) ha
 ·split at h
  all_goals first
   |(cases h;done)
   |(cases h;rw[Bl];simpa[Op.operands]using ha)
   |(split at h<;>first|(cases h;done)|(cases h;rw[Bl];simpa[Op.operands]using ha))
   |skip
  split at h
  ·rename_i x hx
   have jE:Operand.tmp a=x:=by
    simp[Op.operands,Call.operands]at ha
    rw[<-gX,hx]at ha
    simpa using ha
   split at h<;>first|(cases h;done)|(cases h;rw[Bl,jE];simp)
  ·cases h
theorem Z2w{G:List bc}{env:List (Nat×D)}{op:Op}{q:List Nat}(h:mg env op=some q):su G op=false/\Gy op=false/\(∀t x y,op≠.store t x y)/\(∀f args dd,op≠.call ⟨.value (.func f),args,dd⟩)/\∀t,op≠.alloc t:=by
 unfold mg at h
 split at h
 ·rename_i q' hp
  obtain⟨h1,h2,h3,h4,h5⟩:=Zdr (G:=G) hp
  exact⟨h1,h2,h4,λ_ _ _=>h5 _,λt e=>by rw[e]at hp;cases hp⟩
 ·split at h<;>first|(cases h;done)|exact⟨rfl,rfl,λ_ _ _ h=>(by cases h),λ_ _ _ h=>(by cases h),λ_ h=>(by cases h)⟩
theorem Zp6{T:fq}{G:List bc}{N M:Nat}{o:Oper}{q:List Nat}{st:St}(hq:mg st.env o.op=some q){K:St->Prop}(h:lZ T G N M o st K):ie T o.op (bz st.env) st.rows λd R=>st.put N o.dst d R K:=by
  obtain⟨dst,op,type,pos,after,guard⟩:=o
  simp only at hq⊢
  unfold mg at hq
  split at hq
  . rename_i q' hp
    exact vw (o:=⟨dst,op,type,pos,after,guard⟩) hp h
  . split at hq
    all_goals first
      |(cases hq;done)
      |exact h
      |skip
    . rename_i op' t x y ty hn
      unfold lZ at h
      simp only at h
      split at h
      . rename_i hx hy
        rw[hx]at hq;cases hq
      . exact h
    . rename_i s d x hn
      unfold lZ at h
      simp only at h
      split at h
      . exfalso
        unfold wA at h
        split at h
        . split at h
          . rename_i he
            split at hq
            . rename_i hx;rw[hx]at he;cases he
            . rename_i hx;rw[hx]at he;cases he
            . cases hq
          . exact h
        . exact h
      . exact h
def tw:D->Bool|.all _=>true|.int _ _=>true|.str _=>true|.bool _=>true|.sl _ _ _=>true|.iv _ _ _ _=>true|.ptr _ _ _=>true|.emp=>true|.dx=>true|_=>false
theorem Zdk{d:D}(h:Kh d=true):tw d=true:=by cases d<;>first|rfl|cases h
theorem Qml{d:D}(h:H8 d=true):tw d=true:=by cases d<;>first|rfl|cases h
theorem Zjd{ks:List Nat}{d p:D}(hp:tw p=true)(h:d.gq ks=p):d=p:=by
 subst h
 cases d with
 |all x=>simp only[D.gq,D.kill,D.ek]at hp⊢;cases hb:cb x ks<;>simp[hb,tw]at hp⊢
 |own x y z=>simp only[D.gq,D.kill,D.ek]at hp⊢;cases hb:cb x ks<;>simp[hb,tw]at hp
 |ptr x y z=>simp only[D.gq,D.kill,D.ek]at hp⊢;cases hb:cb x ks<;>simp[hb,tw]at hp⊢
 |pa x y z u v q=>simp only[D.gq,D.kill,D.ek]at hp⊢;cases hb:cb x ks<;>simp[hb,tw]at hp
 |c9 x=>simp only[D.gq,D.kill,D.ek]at hp⊢;cases hb:cb x ks<;>simp[hb,tw]at hp
 |gn f cs=>simp only[D.gq,D.kill,D.ek]at hp⊢;cases hb:nV (oH cs) ks<;>simp[hb,tw]at hp
 |_=>first|rfl|simp[D.gq,D.kill,D.ek,tw]at hp
theorem Zp2{env mw:List (Nat×D)}{op:Op}{q:List Nat}(h:mg env op=some q)(hb: ∀a∈q,tw (look env a)=true->look mw a=look env a):mg mw op=some q:=by
  have one: ∀(x:Operand),(∀a,x= .tmp a->a∈q)->tw (bz env x)=true->bz mw x=bz env x:=λx hx hs=>by
    cases x with
    |tmp a=>exact hb a (hx a rfl) hs
    |_=>rfl
  unfold mg at h⊢
  split at h
  . exact h
  . split at h
    all_goals first
      |(cases h;done)
      |exact h
      |skip
    all_goals
      split at h
      all_goals first
        |(cases h;done)
        | (rename_i hx
           cases h
           first
             |(have:=one _ (λa e=>by rw[Bl,<-e];exact gW) (by rw[hx];rfl);rw[this,hx])
             |(have:=one _ (λa e=>by rw[Bl,<-e];simp) (by rw[hx];rfl);rw[this,hx]))
        |skip
    split at h
    all_goals first
      |(cases h;done)
      | (rename_i hx
         cases h
         have:=one _ (λa e=>by rw[Bl,<-e];exact gW) (by rw[hx];rfl);rw[this,hx])
theorem zx{T:fq}{M:Nat}{t tx:TypeId}{x y:D}{R:Rows}{K:List Nat->D->Rows->Prop}(h:MB T M t tx x y R K):
 MB T M t tx x y R λks d R'=>((Kh x=true->ks=[]/\∀r row,R.getD r none=some row->R'.getD r none=some row)/\∀r row,R.getD r none=some row->cb r ks=false->R'.getD r none=some (row.kill ks))/\K ks d R':=by
 have go:∀{e sz lX:Nat} {Ki:List Nat} {es ys:ao},(Kh x=true->Ki=[])->CU e sz lX R Ki es ys K->CU e sz lX R Ki es ys λks d R'=>((Kh x=true->ks=[]/\∀r row,R.getD r none=some row->R'.getD r none=some row)/\∀r row,R.getD r none=some row->cb r ks=false->R'.getD r none=some (row.kill ks))/\K ks d R':=by
  intro e sz lX Ki es ys hx h
  simp only[CU,db,nz]at h⊢
  have key:∀r row,R.getD r none=some row->cb r Ki=false->(se Ki R 0++[some (⟨false,e,sz,es.app ys⟩:Row)]).getD r none=some (row.kill Ki):=λr row hr hm=>by
   have hl:r<R.length:=by
    by_cases hh:r<R.length
    ·exact hh
    ·simp only[aK,aM (show R.length<=r by omega)]at hr;cases hr
   rw[Qn9 (by rw[JN];exact hl),P7,hr,Nat.zero_add,hm]
   simp
  refine⟨h.1,⟨λe=>⟨hx e,λr row hr=>?_⟩,key⟩,h.2⟩
  have:=key r row hr (by rw[hx e];rfl)
  rw[this,hx e,Z38]
 unfold MB at h⊢
 split at h
 ·split at h
  ·split at h
   ·rename_i j5
    simp only[db]at h⊢
    refine⟨h.1,?_⟩
    have h:=h.2
    cases x<;>first|(exact h.elim;done)|(exact go (λ_=>rfl) h;done)|skip
    all_goals
     (try simp only at h⊢)
     split at h
     ·exact⟨h.1,go (λe=>by cases e) h.2⟩
     ·exact h.elim
   ·exact h.elim
  ·exact h.elim
 ·exact h.elim
theorem Zqf{P:Program}{T:fq}(hT:jB P T){G:List bc}(hG:jZ P G){N M:Nat}{ops:Array Oper}{o:Oper}{l:List Oper}{st:St}{K:St->Prop}(h:Qc T G N M ops (o::l) st K):
    ∃ks val R' iM,(∀t,look iM t=look (sr ks st.env) t)/\(∀t,o.dst=some t->t<N)/\nG P G M ops o st.env st.rows ks val R'/\Qc T G N M ops l ⟨ss iM o.dst val,R'⟩ K/\Kg P G o st.env st.rows ks val R':=by
  by_cases hL: ∃t a r ii off,o.guard=none/\o.op= .load t (.tmp a)/\look st.env a= .ptr r ii off
  . obtain⟨t,a,r,ii,off,hg,ho,ha⟩:=hL
    simp only[Qc,hg,lZ,ho,ie,bz,ha]at h
    obtain⟨d,h1,h2,h3⟩:=Zg1 h
    obtain⟨g1,g2⟩:=px h1
    have hN: ∀(ev:Operand->D) (R2:Rows),ev (.tmp a)= .ptr r ii off->R2.getD r none=st.rows.getD r none->pT P o ev R2 d R2:=λev R2 he uR=>by
      have:=h3 R2 uR
      obtain⟨val,R',⟨rfl,rfl⟩,hO⟩:=NB hT o ev R2 (λd' R'=>d'=d/\R'=R2) (by simp only[ho,ie,he];exact this)
      simpa [ho,Gy] using hO
    have hN2: ∀(ev:Operand->D) (R2:Rows) row (L:List (List Nat)),pO d=true->(∀kk∈L,d.ek kk=d)->ev (.tmp a)= .ptr r ii off->st.rows.getD r none=some row->R2.getD r none=some (L.foldl (λr k=>Row.kill k r) row)->pT P o ev R2 d R2:=λev R2 row L hd hL he hr uR=>by
      have:=Zpc (h3 st.rows rfl) hd hL hr uR
      obtain⟨val,R',⟨rfl,rfl⟩,hO⟩:=NB hT o ev R2 (λd' R'=>d'=d/\R'=R2) (by simp only[ho,ie,he];exact this)
      simpa [ho,Gy] using hO
    refine⟨[],d,st.rows,st.env,λt=>pn.symm,g1,?_,g2,λt' a' r' mq iQ _ jg jE=> ?_,λt' b x r' mq iQ _ jg=> ?_,λq _ hq=> ?_,λf args dd _ hf _=>by simp [ho]at hf,λt' _ hf=>by simp [ho]at hf,λargs dd _ hf=>by simp [ho]at hf,λargs dd x' l' _ hf=>by simp [ho]at hf⟩
    . unfold nG
      simp only[hg]
      exact BY (by rw[ho];rfl) (hN _ _ (by simp [bz,ha]) rfl)
    . rw[ho]at jg;cases jg
      rw[ha]at jE;cases jE
      exact⟨rfl,rfl,h2,hN,hN2⟩
    . rw[ho]at jg;cases jg
    . rw[ho]at hq;simp [mg,pP,bz,ha]at hq
  . by_cases hS : ∃t b x r ii off,o.guard=none/\o.op= .store t (.tmp b) x/\look st.env b= .ptr r ii off
    . obtain⟨t,b,x,r,ii,off,hg,ho,hb⟩:=hS
      simp only[Qc,hg,lZ,ho,ie]at h
      rw[show bz st.env (.tmp b)= .ptr r ii off by simp [bz,hb]]at h
      obtain⟨R',h1,h2,h3⟩:=Zav h
      obtain⟨g1,g2⟩:=px h1
      obtain⟨val,R2,⟨rfl,rfl⟩,hO⟩:=NB hT o (bz st.env) st.rows (λd' R2=>d'= .dead/\R2=R') (by simp only[ho,ie];rw[show bz st.env (.tmp b)= .ptr r ii off by simp [bz,hb]];exact h3)
      refine⟨[], .dead,R2,st.env,λt=>pn.symm,g1,?_,g2,λt' a' r' mq iQ _ jg=> ?_,λt' b' x' r' mq iQ _ jg tM=> ?_,λq _ hq=> ?_,λf args dd _ hf _=>by simp [ho]at hf,λt' _ hf=>by simp [ho]at hf,λargs dd _ hf=>by simp [ho]at hf,λargs dd x' l' _ hf=>by simp [ho]at hf⟩
      . unfold nG
        simp only[hg]
        have hO':EY P o (bz st.env) st.rows .dead R2:=by simpa [ho,Gy] using hO
        exact BZ (by rw[ho];rfl) (λk hk=>by simp [cb]at hk) hO'.toK
      . rw[ho]at jg;cases jg
      . rw[ho]at jg;cases jg
        rw[hb]at tM;cases tM
        exact⟨rfl,h2⟩
      . rw[ho]at hq;cases hq
    . by_cases hP : ∃q,o.guard=none/\mg st.env o.op=some q
      . obtain⟨q,hg,hq⟩:=hP
        simp only[Qc,hg]at h
        have rV:=Zp6 hq h
        obtain⟨val,Jaf,Jag⟩:=xx hq rV
        obtain⟨hW,hS',No,hnc,hna⟩:=Z2w (G:=G) hq
        have hN: ∀(ev:Operand->D) (R2:Rows),(∀x∈o.op.operands,ev x=bz st.env x)->pT P o ev R2 val R2:=λev R2 he=>by
          obtain⟨JaE,R',⟨rfl,rfl⟩,hO⟩:=NB hT o ev R2 _ (Jag ev R2 he)
          simpa [hS'] using hO
        obtain⟨g1,g2⟩:=px Jaf
        refine⟨[],val,st.rows,st.env,λt=>pn.symm,g1,?_,g2,λt' a' r' mq iQ Tg jg jE=>(hL ⟨t',a',r',mq,iQ,Tg,jg,jE⟩).elim,λt' b' x' r' mq iQ _ jg=>(No _ _ _ jg).elim,λq' _ Gj=>⟨rfl,rfl,hN⟩,λf args dd _ hf _=>(hnc _ _ _ hf).elim,λt' _ hf=>(hna _ hf).elim,λargs dd _ hf=>by rw[hf]at hq;simp [mg,pP]at hq,λargs dd x' l' _ hf=>by rw[hf]at hq;simp [mg,pP]at hq⟩
        unfold nG
        simp only[hg]
        exact BY hW (hN _ _ (λ_ _=>rfl))
      . by_cases hC: ∃f args dd,o.guard=none/\o.op= .call ⟨.value (.func f),args,dd⟩/\(pr G f=none/\Cb G f=false)
        . obtain⟨f,args,dd,hg,ho,lY,DS⟩:=hC
          obtain⟨dst,op,type,pos,after,guard⟩:=o
          simp only at hg ho
          subst hg;subst ho
          simp only[Qc,lZ,lY,DS]at h
          have IF: ∀x,oZ G f=some x->x.py=false:=λx hx=>by simpa [Cb,hx] using DS
          obtain⟨val,R',x,hK,hx,hO,hN⟩:=WN (dst:=dst) (type:=type) (pos':=pos) (after:=after) (guard:=none) (dd:=dd) hG lY h
          obtain⟨g1,g2⟩:=px hK
          refine⟨[],_,_,st.env,λt=>pn.symm,g1,?_,g2,λt' a' r' mq iQ _ jg=>(by cases jg),λt' b' x' r' mq iQ _ jg=>(by cases jg),λq' _ Gj=>(by cases Gj),λ_ _ _ _ _ _=>rfl,λt' _ hf=>(by cases hf),λargs dd _ hf=>(by cases hf),λargs dd x' l' _ hf=>(by cases hf)⟩
          unfold nG
          cases hr:x.refs with
          |nil=>exact BY (by simp only[su,hx,hr,IF x hx]) (hN hr)
          |cons b bs=>exact BZ (by simp only[su,hx,hr]) (λk hk=>by simp [cb]at hk) hO.toK
        . by_cases hAl: ∃t,o.guard=none/\o.op= .alloc t
          . obtain⟨t,hg,ho⟩:=hAl
            obtain⟨dst,op,type,pos,after,guard⟩:=o
            simp only at hg ho
            subst hg;subst ho
            simp only[Qc,lZ,ie]at h
            split at h
            . rename_i ht
              simp only[db,aE,NF]at h
              obtain⟨⟨h0,hl⟩,h⟩:=h
              obtain⟨g1,g2⟩:=px h
              obtain⟨arr,hA⟩:=Zqp (o:=⟨dst, .alloc t,type,pos,after,none⟩) hT rfl ht (lE h0) (bE hl)
              refine⟨[],_,_,st.env,λt=>pn.symm,g1,?_,g2,λt' a' r' mq iQ _ jg=>(by cases jg),λt' b' x' r' mq iQ _ jg=>(by cases jg),λq' _ Gj=>(by cases Gj),λ_ _ _ _ hf=>(by cases hf),λt' _ hf=>⟨rfl,_,arr,hA,rfl,rfl⟩,λargs dd _ hf=>(by cases hf),λargs dd x' l' _ hf=>(by cases hf)⟩
              unfold nG
              exact BY rfl (Va λc w a hm SK ey=>⟨_,rfl,Zo7 hT ht (lE h0) (bE hl) st.rows.length c w⟩)
            . exact h.elim
          by_cases hAp: ∃args dd,o.guard=none/\o.op= .call ⟨.builtin .append,args,dd⟩
          . obtain⟨args,dd,hg,ho⟩:=hAp
            obtain⟨dst,op,type,pos,after,guard⟩:=o
            simp only at hg ho
            subst hg;subst ho
            simp only[Qc,lZ]at h
            split at h
            . rename_i x y t tx nQ ht
              have Kj:args= #[x,y]:=by rw[<-bS (xs:=args),nQ]
              have uu:dd= #[t,tx]:=by rw[<-bS (xs:=dd),ht]
              subst Kj;subst uu
              have h':=zx h
              obtain⟨ks,R',⟨⟨Jah,CW⟩,hK⟩,hM,hr⟩:=Znc (ty:=type) hT h'
              rw[IE]at hK
              obtain⟨h1,h2⟩:=px hK
              refine⟨ks,_,_,_,λt=>rfl,h1,?_,h2,λt' a' r' mq iQ _ jg=>(by cases jg),λt' b' x' r' mq iQ _ jg=>(by cases jg),λq' _ Gj=>(by cases Gj),λ_ _ _ _ hf=>(by cases hf),λt' _ hf=>(by cases hf),λargs dd _ hf r row hr hm=>CW r row hr hm,λargs dd x' l' _ hf ha he=> ?_⟩
              rotate_left
              . cases hf
                have hx:x= .tmp x':=by
                  have:=congrArg List.head? ha
                  simpa using this
                subst hx
                exact Jah he
              unfold nG
              refine BZ rfl hM λc w a hm hb hR ey K' Q ry=> ?_
              obtain⟨v',w',c',ig,hn,j4,hv⟩:=hr c w _ _ hm hb hR (ey x (by simp [Op.operands,Call.operands])) (ey y (by simp [Op.operands,Call.operands]))
              refine Gz ?_ (ry v' w' c' hn j4 hv)
              simp only[execOp,resolve,Sem.run_bind,Sem.run_pure,Result.andThen_ok,invoke,builtin]
              have:(#[x,y]:Array Operand).map a.eval= #[a.eval x,a.eval y]:=by simp
              rw[this,ig];rfl
            . exact h.elim
          obtain⟨ks,val,R',iM,h0,h1,h2,h3⟩:=Wp hT hG h
          exact⟨ks,val,R',iM,h0,h1,h2,h3,λt a r ii off hg ho ha=>(hL ⟨t,a,r,ii,off,hg,ho,ha⟩).elim,λt b x r ii off hg ho hb=>(hS ⟨t,b,x,r,ii,off,hg,ho,hb⟩).elim,λq hg hq=>(hP ⟨q,hg,hq⟩).elim,λf args dd hg ho lY=>(hC ⟨f,args,dd,hg,ho,lY⟩).elim,λt hg ho=>(hAl ⟨t,hg,ho⟩).elim,λargs dd hg ho=>(hAp ⟨args,dd,hg,ho⟩).elim,λargs dd x l' hg ho ha he=>(hAp ⟨args,dd,hg,ho⟩).elim⟩
theorem Rn{d:D}(h:pO d=true):tw d=true:=by cases d<;>first|rfl|cases h
theorem yx{ks:List Nat}{d:D}{r i off:Nat}(h:d.gq ks=.ptr r i off):d=.ptr r i off:=by
 cases d with
 |all x=>simp only[D.gq,D.kill,D.ek]at h;cases hb:cb x ks<;>rw[hb]at h<;>cases h
 |own x y z=>simp only[D.gq,D.kill,D.ek]at h;cases hb:cb x ks<;>rw[hb]at h<;>cases h
 |ptr x y z=>simp only[D.gq,D.kill,D.ek]at h;cases hb:cb x ks<;>rw[hb]at h<;>cases h;rfl
 |pa x y z u v q=>simp only[D.gq,D.kill,D.ek]at h;cases hb:cb x ks<;>rw[hb]at h<;>cases h
 |c9 x=>simp only[D.gq,D.kill,D.ek]at h;cases hb:cb x ks<;>rw[hb]at h<;>cases h
 |gn f cs=>simp only[D.gq,D.kill,D.ek]at h;cases hb:nV (oH cs) ks<;>rw[hb]at h<;>cases h
 |du ds=>simp[D.gq]at h
 |agg ds=>simp[D.gq,D.kill]at h
 |_=>simp[D.gq,D.kill,D.ek]at h
theorem Kk{ops:Array Oper}{i a k:Nat}{o:Oper}(h:lC ops i a=true)(hk:i<=k)(ho:ops[k]?=some o):o.dst≠some a:=by
 intro hd
 have hm:o∈ops.toList.drop i:=by
  have h1:(ops.toList.drop i)[k-i]?=some o:=by
   rw[List.getElem?_drop,show i+(k-i)=k by omega];simpa using ho
  exact fX h1
 have:=List.all_eq_true.1 h o hm
 simp[hd]at this
theorem Zod{G:List bc}{f:FuncId}(h:(match pr G f with|some _=>true|none=>Cb G f)=false):pr G f=none/\Cb G f=false:=by
 cases hg:pr G f with
 |none=>rw[hg]at h;exact⟨rfl,h⟩
 |some k=>rw[hg]at h;cases h
def Kl(ops:Array Oper)(env:List (Nat×D))(i:Nat)(o:Oper)(q:List Nat):Prop:=
 (∀a∈q,lC ops i a=true/\H8 (look env a)=true)/\∀t,o.dst=some t->lC ops (i+1) t=true/\H8 (look env t)=true
theorem Vy{env:List (Nat×D)}{op:Op}{q:List Nat}(h:pP op=some q):mg env op=some q:=by
 unfold mg;rw[h]
theorem Ro{G:List bc}{ops:Array Oper}{env:List (Nat×D)}{i j:Nat}{x y:Oper}(hx:ops[i]?=some x)(hy:ops[j]?=some y)(h:MW G ops env i j=true):
 (∃t a t' b z r r' ii off mq iQ,x.guard=none/\y.guard=none/\x.op=.load t (.tmp a)/\y.op=.store t' (.tmp b) z/\lC ops i a=true/\lC ops j b=true/\look env a=.ptr r ii off/\look env b=.ptr r' mq iQ/\r≠r')\/
 (∃q,x.guard=none/\y.guard=none/\mg env x.op=some q/\(∀a∈q,lC ops i a=true)/\((∃t' b z r' mq iQ,y.op=.store t' (.tmp b) z/\lC ops j b=true/\look env b=.ptr r' mq iQ)\/∃f args dd,y.op=.call ⟨.value (.func f),args,dd⟩/\(pr G f=none/\Cb G f=false)))\/
 (∃q,x.guard=none/\pP x.op=some q/\Kl ops env i x q)\/
 (∃t a r ii off args dd x0 l,x.guard=none/\y.guard=none/\x.op=.load t (.tmp a)/\lC ops i a=true/\look env a=.ptr r ii off/\y.op=.call ⟨.builtin .append,args,dd⟩/\args.toList=.tmp x0::l/\lC ops j x0=true/\Kh (look env x0)=true)\/
 (∃t a r ii off args dd td,x.guard=none/\y.guard=none/\x.op=.load t (.tmp a)/\lC ops i a=true/\look env a=.ptr r ii off/\y.op=.call ⟨.builtin .append,args,dd⟩/\x.dst=some td/\lC ops (i+1) td=true/\pO (look env td)=true):=by
 unfold MW at h
 simp only[hx,hy]at h
 split at h
 ·rename_i t a t' b z h1 h2 h3 h4
  simp only[aE]at h
  obtain⟨g1,g2,g3⟩:=h
  split at g3
  ·rename_i r ii off r' mq iQ e1 e2
   refine .inl ⟨t,a,t',b,z,r,r',ii,off,mq,iQ,h1,h2,h3,h4,g1,g2,e1,e2,λe=>?_⟩
   subst e
   simp at g3
  ·rename_i sz es k off r' mq iQ e1 e2
   exact .inr (.inl ⟨[a],h1,h2,by rw[h3];simp[mg,pP,bz,e1,mV],λa' ha=>by simp at ha;subst ha;exact g1,.inl ⟨t',b,z,r',mq,iQ,h4,g2,e2⟩⟩)
  ·cases g3
 ·rename_i op t' b z h1 h2 h4 _
  split at h
  ·rename_i q hq
   simp only[aE]at h
   obtain⟨g1,g2,g3⟩:=h
   split at g3
   ·rename_i r' mq iQ e2
    exact .inr (.inl ⟨q,h1,h2,hq,λa ha=>List.all_eq_true.1 g1 a ha,.inl ⟨t',b,z,r',mq,iQ,h4,g2,e2⟩⟩)
   ·cases g3
  ·cases h
 ·rename_i op f dd h1 h2 h4
  split at h
  ·cases h
  ·rename_i IP
   have Jai:=Zod IP
   split at h
   ·rename_i q hq
    exact .inr (.inl ⟨q,by assumption,by assumption,hq,λa ha=>List.all_eq_true.1 h a ha,.inr ⟨_,_,_,by assumption,Jai⟩⟩)
   ·cases h
 ·rename_i op args dd h1 h2 h4 _
  split at h
  ·rename_i q hq
   simp only[aE]at h
   refine .inr (.inr (.inl ⟨q,by assumption,hq,λa ha=>?_,λt ht=>?_⟩))
   ·have:=List.all_eq_true.1 h.1 a ha
    simpa only[aE]using this
   ·have:=h.2
    simp only[ht,aE]at this
    exact this
  ·have Rp:∀{d:D},H8 d=true->∃r ii off,d=.ptr r ii off:=fun{d} k=>by
    cases d<;>first|(cases k;done)|exact⟨_,_,_,rfl⟩
   rcases Bool.or_eq_true_iff.1 h with h|h
   ·unfold Dx at h
    split at h
    ·rename_i t a x0 l hxo hl
     simp only[aE]at h
     obtain⟨k1,k2,k3,k4⟩:=h
     obtain⟨r,ii,off,hr⟩:=Rp k3
     exact .inr (.inr (.inr (.inl ⟨t,a,r,ii,off,dd,h1,x0,l,by assumption,by assumption,hxo,k1,hr,by assumption,hl,k2,k4⟩)))
    ·cases h
   ·unfold Dy at h
    split at h
    ·rename_i t a td hxo tY
     simp only[aE]at h
     obtain⟨k1,k2,k3,k4⟩:=h
     obtain⟨r,ii,off,hr⟩:=Rp k2
     exact .inr (.inr (.inr (.inr ⟨t,a,r,ii,off,dd,h1,td,by assumption,by assumption,hxo,k1,hr,by assumption,tY,k3,k4⟩)))
    ·cases h
 ·cases h
theorem Zj1{ops:Array Oper}{j:Nat}{y:Oper}(hy:ops[j]?=some y)(h:u6 ops j=true):(∃t,y.guard=none/\y.op=.alloc t)/\∀u,y.dst=some u->∀k o',k≠j->ops[k]?=some o'->o'.dst≠some u:=by
 unfold u6 at h
 simp only[hy]at h
 split at h
 ·rename_i t h1 h2
  refine⟨⟨t,h1,h2⟩,λu hu k o' hk dz hd=>?_⟩
  simp only[hu]at h
  have cj:=(Array.getElem?_eq_some_iff.1 dz).1
  have:=List.all_eq_true.1 h k (List.mem_range.2 cj)
  simp only[dz,aL,hd,aI]at this
  rcases this with this|this
  ·exact hk (bE this)
  ·simp at this
 ·cases h
theorem Gk{G:List bc}{ops:Array Oper}{env:List (Nat×D)}(h:Rq G ops env=true){i j:Nat}{x y:Oper}(Wq:i<j)(hx:ops[i]?=some x)(hy:ops[j]?=some y):
 (x.apart ops y=true\/((Region.before ops).getD j 0).testBit i=true)/\((lH G x.op=true/\lH G y.op=true)\/((Region.before ops).getD j 0).testBit i=true\/MW G ops env i j=true\/((∃t,y.guard=none/\y.op=.alloc t)/\∀u,y.dst=some u->∀k o',k≠j->ops[k]?=some o'->o'.dst≠some u)):=by
 have hj:=(Array.getElem?_eq_some_iff.1 hy).1
 have h1:=List.all_eq_true.1 h j (List.mem_range.2 hj)
 simp only[aE]at h1
 have h2:=List.all_eq_true.1 h1.2 i (List.mem_range.2 Wq)
 unfold Ah at h2
 simp only[hx,hy,aE,aI]at h2
 exact⟨h2.1,h2.2.elim (λg=>g.elim .inl (λg=>.inr (.inl g))) (λg=>g.elim (λg=>.inr (.inr (.inl g))) (λg=>.inr (.inr (.inr (Zj1 hy g)))))⟩
theorem Zg2{G:List bc}{ops:Array Oper}{env:List (Nat×D)}(h:Rq G ops env=true){j:Nat}{y:Oper}(hy:ops[j]?=some y):∀e∈y.after,Region.binds .any e=true->e.on<j:=by
 have hj:=(Array.getElem?_eq_some_iff.1 hy).1
 have h1:=List.all_eq_true.1 h j (List.mem_range.2 hj)
 simp only[aE,hy]at h1
 intro e he hb
 have:=Array.all_eq_true'.1 h1.1 e he
 simp only[hb,Bool.not_true,Bool.false_or]at this
 exact lE this
theorem xaz{P:Program}{G:List bc}{ops:Array Oper}{M:Nat}{c:Ctx}{w:World}{env:List (Nat×D)}{R:Rows}{a:Act}{i:Nat}{o:Oper}{ks:List Nat}{val:D}{R':Rows}(hi:ops[i]?=some o)
 (hm:Mem c w) (hb:c.base<=w.heap.size) (hR:∀r,c.R r=R.getD r none) (ey:∀t∈o.looksAt ops,Rep c w (look env t) (a.tmps.getD t undef)) (hG:nG P G M ops o env R ks val R') {K:Act->World->Prop} {Q:Exit->Act->World->Prop}
 (hK:∀v w' c',(∀k,cb k ks=true->M<=k)->jH ks c w c' w'->(∀r,c'.R r=R'.getD r none)->Rep c' w' val v->K (a.put o.dst v) w'):wpOp P ops Q i K a w:=by
 have hx:∀x∈o.op.operands,Rep c w (bz env x) (a.eval x):=λx hx=>by
  cases x with
  |tmp t=>
   refine ey t ?_
   unfold Oper.looksAt
   exact gQ _ (List.mem_filterMap.2 ⟨.tmp t,by simpa using hx,rfl⟩)
  |const v=>
   simp only[bz,Act.eval]
   cases hv:Gt v with
   |none=>trivial
   |some d=>exact Nq hv c w
  |global g=>trivial
  |func f=>exact KJ f
 have run:pQ P G M o (bz env) R ks val R'->o.ny P a w K Q:=λhX=>hX.toK.2 c w a hm hb hR hx K Q λv w' c' h1 h2 h3=>hK v w' c' hX.toK.1 h1 h2 h3
 have skip:ks=[]->val=.du []->R'=R->K (a.put o.dst undef) w:=λe0 e1 e2=>by
  subst e0;subst e1;subst e2
  exact hK undef w c (λk hk=>by simp[cb]at hk) (lW.toK ⟨hm,jn.refl _ _,Fr.refl _ _,λb hb=>.inl hb,λr row hr v=>.inl ⟨⟨row,hr⟩,v,rfl⟩⟩) hR (SL _ _)
 unfold wpOp
 simp only[hi]
 unfold nG at hG
 cases hg:o.guard with
 |none=>
  simp only[hg]at hG
  have hw:Region.wanted o (yielded ops a.tmps)=true:=by simp[Region.wanted,hg]
  rw[if_pos hw]
  exact run hG
 |some jw=>
  obtain⟨j,want⟩:=jw
  simp only[hg]at hG
  obtain⟨g,h2,hG⟩:=hG
  have hr:=ey g (by
   unfold Oper.looksAt
   refine gP _ ?_
   simp only[hg,h2];simp)
  rcases hG with⟨b,h3,h4⟩|⟨h3,e0,e1,e2⟩
  rotate_left
  ·rw[h3]at hr
   rw[if_neg (by rw[SM (o:=o) hg h2 hr];simp)]
   exact skip e0 e1 e2
  rw[h3]at hr
  have hw:=SN (o:=o) hg h2 hr
  by_cases e:b=want
  ·rw[if_pos e]at h4
   rw[if_pos (by rw[hw];simpa using e)]
   exact run h4
  ·rw[if_neg e]at h4
   rw[if_neg (by rw[hw];simpa using e)]
   exact skip h4.1 h4.2.1 h4.2.2
structure Vz(P:Program)(G:List bc)(N M:Nat)(ops:Array Oper)(s:Nat->St)(ks:Nat->List Nat)(val:Nat->D):Prop extends Chain P G N M ops s ks val where
 mM:∀(i:Nat) (o:Oper),ops[i]?=some o->Kg P G o (s i).env (s i).rows (ks i) (val i) (s (i+1)).rows
theorem Zgy{P:Program}{T:fq}(hT:jB P T){G:List bc}(hG:jZ P G){N M:Nat}{ops:Array Oper}{K:St->Prop}:∀(l:List Oper) (k:Nat) (st:St),ops.toList.drop k=l->Qc T G N M ops l st K->
 ∃ (s:Nat->St) (ks:Nat->List Nat) (val:Nat->D),s k=st/\K (s (k+l.length))/\(∀(i:Nat) (o:Oper),k<=i->ops[i]?=some o->nG P G M ops o (s i).env (s i).rows (ks i) (val i) (s (i+1)).rows)/\
  (∀(i:Nat) (o:Oper) (t:Nat),k<=i->ops[i]?=some o->look (s (i+1)).env t=if o.dst=some t then val i else look (sr (ks i) (s i).env) t)/\(∀(i:Nat) (o:Oper) (t:Nat),k<=i->ops[i]?=some o->o.dst=some t->t<N)/\
  (∀(i:Nat) (o:Oper),k<=i->ops[i]?=some o->Kg P G o (s i).env (s i).rows (ks i) (val i) (s (i+1)).rows)
 |[],k,st,hk,h=>by
  have hlen:ops.size<=k:=by
   have:=congrArg List.length hk
   simp at this;omega
  have no:∀(i:Nat) (o:Oper),k<=i->ops[i]?=some o->False:=λi o hi ho=>by
   have:=(Array.getElem?_eq_some_iff.1 ho).1;omega
  exact⟨λ_=>st,λ_=>[],λ_=>.dead,rfl,h,λi o hi ho=>(no i o hi ho).elim,λi o t hi ho=>(no i o hi ho).elim,λi o t hi ho=>(no i o hi ho).elim,λi o hi ho=>(no i o hi ho).elim⟩
 |o ::l,k,st,hk,h=>by
  have cj:k<ops.toList.length:=by
   by_cases cj:k<ops.toList.length
   ·exact cj
   ·rw[List.drop_eq_nil_of_le (by omega)]at hk;cases hk
  rw[List.drop_eq_getElem_cons cj]at hk
  have ho:ops[k]?=some o:=by
   have:=(List.cons.inj hk).1
   rw[<-this]
   simp at cj
   simp[cj]
  obtain⟨kk,v,R',iM,h1,h2,h3,h4,h5⟩:=Zqf hT hG h
  obtain⟨s,ks,val,g1,g2,g3,g4,g5,g6⟩:=Zgy hT hG l (k+1) _ (List.cons.inj hk).2 h4
  refine⟨λi=>if i=k then st else s i,λi=>if i=k then kk else ks i,λi=>if i=k then v else val i,by simp,?_,λi p hi hp=>?_,λi p t hi hp=>?_,λi p t hi hp hd=>?_,λi p hi hp=>?_⟩
  ·simp only[List.length_cons]
   rw[if_neg (by omega),show k+(l.length+1)=k+1+l.length by omega]
   exact g2
  ·by_cases e:i=k
   ·subst e
    rw[ho]at hp;cases hp
    simp only[if_true,show¬i+1=i by omega,if_false,g1]
    exact h3
   ·simp only[if_neg e,if_neg (show¬i+1=k by omega)]
    exact g3 i p (by omega) hp
  ·by_cases e:i=k
   ·subst e
    rw[ho]at hp;cases hp
    simp only[if_true,show¬i+1=i by omega,if_false,g1]
    cases tY:o.dst with
    |none=>simp[ss,h1]
    |some u=>simp only[ss,Bq,Option.some.injEq,h1]
   ·simp only[if_neg e,if_neg (show¬i+1=k by omega)]
    exact g4 i p t (by omega) hp
  ·by_cases e:i=k
   ·subst e
    rw[ho]at hp;cases hp
    exact h2 t hd
   ·exact g5 i p t (by omega) hp hd
  ·by_cases e:i=k
   ·subst e
    rw[ho]at hp;cases hp
    simp only[if_true,show¬i+1=i by omega,if_false,g1]
    exact h5
   ·simp only[if_neg e,if_neg (show¬i+1=k by omega)]
    exact g6 i p (by omega) hp
section
variable {P:Program} {G:List bc} {N M:Nat} {ops:Array Oper} {s:Nat->St} {ks:Nat->List Nat} {val:Nat->D} (hc:Vz P G N M ops s ks val)
include hc
theorem ED{i a r ii off:Nat}(hn:lC ops i a=true)(h:look (s ops.size).env a=.ptr r ii off):∀{k:Nat},i<=k->k<=ops.size->look (s k).env a=.ptr r ii off:=by
 intro k oi hk
 obtain⟨n,Rc⟩:∃n,ops.size=k+n:=⟨ops.size-k,by omega⟩
 have:∀n k,i<=k->k+n<=ops.size->look (s (k+n)).env a=.ptr r ii off->look (s k).env a=.ptr r ii off:=by
  intro n
  induction n with
  |zero=>intro k _ _ h;exact h
  |succ n ih=>
   intro k h1 h2 h3
   have ho:ops[k]?=some ops[k]:=aJ (by omega)
   have h4:=ih (k+1) (by omega) (by omega) (by rw[show k+1+n=k+(n+1) by omega];exact h3)
   rw[hc.env k _ a ho,if_neg (Kk hn h1 ho),Ca]at h4
   exact yx h4
 exact this n k oi (by omega) (by rw[<-Rc];exact h)
theorem EE{i a:Nat}(hn:lC ops i a=true)(h:tw (look (s ops.size).env a)=true):∀{k:Nat},i<=k->k<=ops.size->look (s k).env a=look (s ops.size).env a:=by
 intro k oi hk
 obtain⟨n,Rc⟩:∃n,ops.size=k+n:=⟨ops.size-k,by omega⟩
 have:∀n k,i<=k->k+n<=ops.size->∀p,tw p=true->look (s (k+n)).env a=p->look (s k).env a=p:=by
  intro n
  induction n with
  |zero=>intro k _ _ p _ h;exact h
  |succ n ih=>
   intro k h1 h2 p hp h3
   have ho:ops[k]?=some ops[k]:=aJ (by omega)
   have h4:=ih (k+1) (by omega) (by omega) p hp (by rw[show k+1+n=k+(n+1) by omega];exact h3)
   rw[hc.env k _ a ho,if_neg (Kk hn h1 ho),Ca]at h4
   exact Zjd hp h4
 exact this n k oi (by omega) _ h (by rw[<-Rc])
theorem Zno{i:Nat}{op:Op}{q:List Nat}(h:mg (s ops.size).env op=some q)(hq:∀a∈q,lC ops i a=true){k:Nat}(h1:i<=k)(h2:k<=ops.size):mg (s k).env op=some q:=
 Zp2 h λa ha hs=>EE hc (hq a ha) hs h1 h2
theorem Qwn{dq:Nat->Bool}{c:Nat}{t:Nat}:∀{n:Nat},(∀i o,i<n->ops[c+i]?=some o->o.dst=some t->dq (c+i)=false)->jf ops s val dq c n t=look (s c).env t
 |0,_=>rfl
 |n + 1,h=>by
  simp only[jf]
  rw[if_neg]
  ·exact Qwn (λi o hi=>h i o (by omega))
  ·rintro⟨g1,g2⟩
   cases hk:ops[c+n]? with
   |none=>rw[hk]at g2;cases g2
   |some o=>
    rw[hk]at g2
    rw[h n o (by omega) hk g2]at g1;cases g1
theorem Zh9{dq:Nat->Bool}{c d:Nat}{t:Nat}(hq:∀(i:Nat) (o:Oper),c<=i->i<d->ops[i]?=some o->lH G o.op=true)(hd:d<=ops.size):∀{n:Nat},c+n<=d->(∀i o,i<n->ops[c+i]?=some o->o.dst=some t->dq (c+i)=true)->jf ops s val dq c n t=look (s (c+n)).env t
 |0,_,_=>rfl
 |n +1,hn,hl=>by
  have ho:ops[c+n]?=some ops[c+n]:=aJ (by omega)
  simp only[jf,ho,aL]
  rw[show c+(n+1)=(c+n)+1 by omega,hc.toChain.ER ho (hq _ _ (by omega) (by omega) ho) t]
  by_cases tv:ops[c+n].dst=some t
  ·rw[if_pos ⟨hl n _ (by omega) ho tv,tv⟩,if_pos tv]
  ·rw[if_neg (λg=>tv g.2),if_neg tv]
   exact Zh9 hq hd (by omega) (λi o hi=>hl i o (by omega))
theorem Z8l{dq:Nat->Bool}{c d:Nat}(hq:∀(i:Nat) (o:Oper),c<=i->i<d->ops[i]?=some o->lH G o.op=true)(hd:d<=ops.size):∀{n:Nat},c+n<=d->(∀i,i<n->dq (c+i)=true\/(s (c+i+1)).rows=(s (c+i)).rows)->∀r,kJ s dq c n r=(s (c+n)).rows.getD r none
 |0,_,_,r=>rfl
 |n + 1,hn,hl,r=>by
  simp only[kJ]
  rw[show c+(n+1)=c+n+1 by omega]
  have hlen:=KH hc.toChain hq hd (show c<=c+n by omega) (show c+n<=c+n+1 by omega) (by omega)
  have ih:=Z8l hq hd (n:=n) (by omega) (λi hi=>hl i (by omega)) r
  rcases hl n (by omega)with h|h
  ·simp only[h,true_and]
   split
   ·rfl
   ·rw[ih]
    by_cases h2:r<(s (c+n)).rows.length
    ·exact(KI hc.toChain hq hd (by omega) (by omega) (by omega) h2).symm
    ·simp only[aK]
     rw[aM (by omega),aM (by omega)]
  ·rw[if_neg (by rw[h];omega),ih,h]
theorem Zhc{dq:Nat->Bool}{c d:Nat}(hq:∀(i:Nat) (o:Oper),c<=i->i<d->ops[i]?=some o->lH G o.op=true)(hd:d<=ops.size){r:Nat}(hr:r<(s c).rows.length):∀{n:Nat},c+n<=d->kJ s dq c n r=(s c).rows.getD r none
 |0,_=>rfl
 |n+1,hn=>by
  simp only[kJ]
  have hlen:=KH hc.toChain hq hd (show c<=c by omega) (show c<=c+n by omega) (by omega)
  rw[if_neg (by omega)]
  exact Zhc hq hd hr (by omega)
end
structure tz(w0:World)(cx:Ctx)(w:World)(b:Nat)(arr:Array Value)(ty:TypeId):Prop where
 jC:w0.heap.size<=b
 lt:b<w.heap.size
 here:w.heap[b]?=some (.cells arr ty (0,0))
 fu:¬cx.I b
 row:∀r row,cx.R r=some row->¬cx.V r->cx.ρ r≠b
theorem tz.bf{w0 w w':World}{c c':Ctx}{ks:List Nat}{b:Nat}{arr:Array Value}{ty:TypeId}(h:tz w0 c w b arr ty)(n:jH ks c w c' w'):tz w0 c' w' b arr ty:=by
 refine⟨h.jC,bI h.lt n.fr.size,(n.fr.heap b h.lt fun⟨r,x,h1,h2,h3⟩=>h.row r x h1 h2 h3).trans h.here,λhb=>?_,λr row hr hv e=>?_⟩
 ·rcases n.fu b hb with g|⟨s,x,_,g1,g2,g3⟩|g
  ·exact h.fu g
  ·exact h.row s x g1 g2 g3
  ·have:=h.lt;omega
 ·rcases n.ov r row hr hv with⟨⟨x,g1⟩,g2,g3⟩|⟨s,x,_,g1,g2,g3⟩|g
  ·exact h.row r x g1 g2 (by rw[<-g3];exact e)
  ·exact h.row s x g1 g2 (by rw[<-g3];exact e)
  ·have:=h.lt;omega
theorem qy{a:Act}{o:Oper}{v:Value}{u:Nat}(h:o.dst≠some u):(a.put o.dst v).tmps.getD u undef=a.tmps.getD u undef:=by
 cases ho:o.dst with
 |none=>simp[Act.put]
 |some x=>
  have gr:x≠u:=λe=>h (by rw[ho,e])
  simp[Act.put,aQ gr]
theorem yT{a:Act}{dst:Option Tmp}{v:Value}{u:Nat}(h:dst=some u)(cj:u<a.tmps.size):(a.put dst v).tmps.getD u undef=v:=by
 subst h
 simp[Act.put,aP,cj]
def MX(P:Program)(ops:Array Oper)(s:Nat->St)(val:Nat->D)(w0:World)(cx:Ctx)(w:World)(a:Act)(i b:Nat):Prop:=
 ∃ o t row arr,ops[i]?=some o/\o.guard=none/\o.op=.alloc t/\Vx P o row arr/\val i=.ptr (s i).rows.length 0 0/\(s (i+1)).rows=(s i).rows++[some row]/\tz w0 cx w b arr row.ty/\
  (∀u,o.dst=some u->a.tmps.getD u undef=.pointer (some ⟨b,0,none⟩))/\∀u,o.dst=some u->∀k o',k≠i->ops[k]?=some o'->o'.dst≠some u
theorem MX.bf{P:Program}{ops:Array Oper}{s:Nat->St}{val:Nat->D}{w0 w w':World}{c c':Ctx}{ks:List Nat}{a:Act}{i k b:Nat}{o:Oper}{v:Value}(h:MX P ops s val w0 c w a k b)(n:jH ks c w c' w')(oi:i≠k)(ho:ops[i]?=some o):MX P ops s val w0 c' w' (a.put o.dst v) k b:=by
 obtain⟨o',t,row,arr,g1,g2,g3,g4,g5,g6,g7,g8,g9⟩:=h
 exact⟨o',t,row,arr,g1,g2,g3,g4,g5,g6,g7.bf n,λu hu=>by rw[qy (g9 u hu i o oi ho)];exact g8 u hu,g9⟩
theorem Qpi{c:Ctx}{w:World}(hm:Mem c w)(o:Obj):jn c w c (w.alloc o):=
 ⟨rfl,aO _,λb hb=>⟨hb,Q7 w o b (hm.fu b hb).1⟩,λr x hr=>⟨x,hr,rfl,rfl,rfl,rfl,rfl,Iff.rfl,λnv arr ha=>⟨arr,by rw[Q7 w o _ (hm.lt hr nv)];exact ha,rfl⟩⟩⟩
theorem Qyc(w:World)(o:Obj):(w.alloc o).heap.size=w.heap.size+1:=by show(w.heap.push o).size=_;simp
theorem Zp0{c:Ctx}{w:World}(hm:Mem c w)(o:Obj):Mem c (w.alloc o):=
 ⟨λr row hr=>ue (Qpi hm o) rfl Iff.rfl (λnv=>Q7 w o _ (hm.lt hr nv)) (hm.row r row hr),hm.inj,(λb hb=>⟨by have:=(hm.fu b hb).1;rw[Qyc];omega,(hm.fu b hb).2⟩),by have:=hm.top;rw[Qyc];omega,hm.kR.mono (Qpi hm o).I⟩
theorem Zfp{c:Ctx}{w:World}{k:Nat}(hk:c.R k=none)(row:Row)(b:Nat):jn c w (c.add k row b) w:=by
 refine⟨rfl,aO _,λb hb=>⟨hb,rfl⟩,λr x hr=>?_⟩
 have gr:r≠k:=λe=>by rw[e,hk]at hr;cases hr
 exact⟨x,by simp[Ctx.add,gr,hr],rfl,rfl,rfl,rfl,by simp[Ctx.add,gr],by simp[Ctx.add,gr],λnv arr ha=>⟨arr,ha,rfl⟩⟩
theorem qaA{P:Program}{o:Oper}{c:Ctx}{w w0:World}(hm:Mem c w){k:Nat}(hk:c.R k=none){row:Row}{b:Nat}{arr:Array Value}(hA:Vx P o row arr)(hl:tz w0 c w b arr row.ty):Mem (c.add k row b) w:=by
 have hg:=Zfp (w:=w) hk row b
 have jC:∀r x,r≠k->(c.add k row b).R r=some x->c.R r=some x/\(c.add k row b).ρ r=c.ρ r/\((c.add k row b).V r↔c.V r):=λr x e h=>⟨by simpa[Ctx.add,e]using h,by simp[Ctx.add,e],by simp[Ctx.add,e]⟩
 refine⟨λr x hr=>?_,λr s x y hr hs v1 v2 he=>?_,λb' hb=>⟨(hm.fu b' hb).1,λr x hr v=>?_⟩,hm.top,hm.kR⟩
 ·by_cases e:r=k
  ·subst e
   simp only[Ctx.add,if_true,Option.some.injEq]at hr
   subst hr
   obtain⟨e,h1,h2,h3,h4⟩:=hA.cells
   refine .inr ⟨by simp[Ctx.add],arr,by simp only[Ctx.add,if_true];exact hl.here,hA.sz,?_⟩
   rw[if_pos hA.box]
   exact⟨e,h1,h2,h3,h4 _ _⟩
  ·obtain⟨g1,g2,g3⟩:=jC r x e hr
   exact ue hg g2 g3 (λ_=>rfl) (hm.row r x g1)
 ·by_cases e1:r=k<;>by_cases e2:s=k
  ·rw[e1,e2]
  ·obtain⟨g1,g2,g3⟩:=jC s y e2 hs
   exfalso
   refine hl.row s y g1 (λe=>v2 (g3.2 e)) ?_
   rw[<-g2,<-he,e1];simp[Ctx.add]
  ·obtain⟨g1,g2,g3⟩:=jC r x e1 hr
   exfalso
   refine hl.row r x g1 (λe=>v1 (g3.2 e)) ?_
   rw[<-g2,he,e2];simp[Ctx.add]
  ·obtain⟨g1,g2,g3⟩:=jC r x e1 hr
   obtain⟨k1,k2,k3⟩:=jC s y e2 hs
   exact hm.inj r s x y g1 k1 (λe=>v1 (g3.2 e)) (λe=>v2 (k3.2 e)) (by rw[<-g2,<-k2];exact he)
 ·by_cases e:r=k
  ·subst e
   simp only[Ctx.add,if_true]
   intro e;subst e
   exact hl.fu hb
  ·obtain⟨g1,g2,g3⟩:=jC r x e hr
   rw[g2];exact(hm.fu b' hb).2 r x g1 (λe=>v (g3.2 e))
def Rr(ops:Array Oper)(env:List (Nat×D))(i:Nat)(o:Oper):Prop:=∃td,o.dst=some td/\lC ops (i+1) td=true/\pO (look env td)=true
def Rs(ops:Array Oper)(s:Nat->St)(ks:Nat->List Nat)(i c:Nat):Prop:=
 (∃o t a r ii off row ak,ops[i]?=some o/\o.guard=none/\o.op=.load t (.tmp a)/\lC ops i a=true/\look (s ops.size).env a=.ptr r ii off/\(s i).rows.getD r none=some row/\(s c).rows.getD r none=some ak/\((ak=row/\∀k,i<k->k<c->ks k=[])\/(Rr ops (s ops.size).env i o/\∃L:List (List Nat),ak=L.foldl (λr k=>Row.kill k r) row/\∀kk∈L,∃j,i<j/\j<c/\kk=ks j)))\/
 (∃o q,ops[i]?=some o/\o.guard=none/\mg (s ops.size).env o.op=some q/\(∀a∈q,lC ops i a=true)/\((∀k,i<k->k<c->ks k=[])\/Kl ops (s ops.size).env i o q))
structure Inv2(P:Program)(G:List bc)(N M:Nat)(ops:Array Oper)(s:Nat->St)(ks:Nat->List Nat)(val:Nat->D)(c0:Ctx)(w0:World)(dq:Nat->Bool)(a:Act)(w:World)(c d:Nat):Prop where
 cd:c<=d
 dn:d<=ops.size
 pre:∀i,i<c->dq i=true\/Rs ops s ks i c
 quiet:∀(i:Nat) (o:Oper),c<=i->i<d->ops[i]?=some o->lH G o.op=true
 wr:∀(o:Oper),ops[d]?=some o->lH G o.op=false
 closed:∀j,dq j=true->∀(o:Oper),ops[j]?=some o->∀e∈o.after,Region.binds .any e=true->dq e.on=true
 size:N<=a.tmps.size
 defers:mi w0.heap.size w a.defers
 gj:c0.base<=w0.heap.size
 gw:∀r row,c0.R r=some row->r<M
 ctx:∃(cx:Ctx) (B:Nat->Nat),Mem cx w/\(∀r,cx.R r=kJ s dq c (d-c) r)/\(∀t,(∀k o,k<c->dq k=false->ops[k]?=some o->o.dst≠some t)->(∀k o,d<=k->dq k=true->ops[k]?=some o->o.dst≠some t)->Rep cx w (jf ops s val dq c (d-c) t) (a.tmps.getD t undef))/\Ao c0 w0 cx w/\
  (∀i,d<=i->dq i=true->MX P ops s val w0 cx w a i (B i))/\(∀i j,d<=i->d<=j->dq i=true->dq j=true->B i=B j->i=j)
theorem VA{c':Ctx}{w':World}{a:Act}{o:Oper}{t:Nat}{d:D}{v:Value}{N:Nat}(hs:N<=a.tmps.size)(hd:∀u,o.dst=some u->u<N)(h1:o.dst=some t->Rep c' w' d v)(h2:o.dst≠some t->Rep c' w' d (a.tmps.getD t undef)):Rep c' w' d ((a.put o.dst v).tmps.getD t undef):=by
 cases ho:o.dst with
 |none=>simpa[Act.put]using h2 (by rw[ho];simp)
 |some u=>
  by_cases e:u=t
  ·subst e
   have hu:u<a.tmps.size:=bI (hd u ho) hs
   simpa[Act.put,aP,hu]using h1 ho
  ·have:=h2 (by rw[ho];intro h;exact e (Option.some.inj h))
   simpa[Act.put,aQ e]using this
theorem Rt{P:Program}{G:List bc}{N M:Nat}{ops:Array Oper}{s:Nat->St}{ks:Nat->List Nat}{val:Nat->D}(hc:Vz P G N M ops s ks val){c0:Ctx}{w0 w:World}{dq:Nat->Bool}{a:Act}{c d:Nat}
 (hq:∀(i:Nat) (o:Oper),c<=i->i<d->ops[i]?=some o->lH G o.op=true) (hd:d<=ops.size)
 (h:∃(cx:Ctx) (B:Nat->Nat),Mem cx w/\(∀r,cx.R r=(s c).rows.getD r none)/\(∀t,(∀k o,k<c->dq k=false->ops[k]?=some o->o.dst≠some t)->(∀k o,c<=k->dq k=true->ops[k]?=some o->o.dst≠some t)->Rep cx w (look (s c).env t) (a.tmps.getD t undef))/\Ao c0 w0 cx w/\
  (∀i,c<=i->dq i=true->MX P ops s val w0 cx w a i (B i))/\(∀i j,c<=i->c<=j->dq i=true->dq j=true->B i=B j->i=j)):
 ∀ n,c+n<=d->∃(cx:Ctx) (B:Nat->Nat),Mem cx w/\(∀r,cx.R r=kJ s dq c n r)/\(∀t,(∀k o,k<c->dq k=false->ops[k]?=some o->o.dst≠some t)->(∀k o,c+n<=k->dq k=true->ops[k]?=some o->o.dst≠some t)->Rep cx w (jf ops s val dq c n t) (a.tmps.getD t undef))/\Ao c0 w0 cx w/\
  (∀i,c+n<=i->dq i=true->MX P ops s val w0 cx w a i (B i))/\(∀i j,c+n<=i->c+n<=j->dq i=true->dq j=true->B i=B j->i=j):=by
 have hlen:∀k l,c<=k->k<=l->l<=d->(s k).rows.length<=(s l).rows.length:=λk l h1 h2 h3=>KH hc.toChain hq hd h1 h2 h3
 have Ru:∀n,c+n<=d->∀r,(s (c+n)).rows.length<=r->kJ s dq c n r=none:=by
  intro n
  induction n with
  |zero=>intro _ r hr;simp only[kJ];simp only[bG]at hr;rw[aK,aM hr];rfl
  |succ n ih=>
   intro hn r hr
   simp only[kJ]
   have:=hlen (c+n) (c+n+1) (by omega) (by omega) (by omega)
   rw[show c+(n+1)=c+n+1 by omega]at hr
   rw[if_neg (by omega)]
   exact ih (by omega) r (by omega)
 intro n
 induction n with
 |zero=>intro _;simpa only[kJ,jf,bG]using h
 |succ n ih=>
  intro hn
  obtain⟨cx,B,hm,hR,hE,oh,nW,oL⟩:=ih (by omega)
  cases hl:dq (c+n)with
  |false=>
   refine⟨cx,B,hm,λr=>?_,λt ht he=>?_,oh,λi hi HG=>nW i (by omega) HG,λi j hi hj=>oL i j (by omega) (by omega)⟩
   ·simp only[kJ,hl,aN,false_and,if_false];exact hR r
   ·simp only[jf,hl,aN,false_and,if_false]
    refine hE t ht λk o hk oP=>he k o ?_ oP
    by_cases e:k=c+n
    ·rw[e,hl]at oP;cases oP
    ·omega
  |true=>
   obtain⟨o,ty,row,arr,g1,g2,g3,g4,g5,g6,g7,g8,g9⟩:=nW (c+n) (aO _) hl
   have hk:cx.R (s (c+n)).rows.length=none:=by rw[hR];exact Ru n (by omega) _ (aO _)
   have hg:=Zfp (w:=w) hk row (B (c+n))
   refine⟨cx.add (s (c+n)).rows.length row (B (c+n)),B,qaA hm hk g4 g7,λr=>?_,λt ht he=>?_,⟨oh.cf.trans hg,oh.fr,oh.fu,λr x hr hv=>?_,oh.xb⟩,λi hi HG=>?_,λi j hi hj=>oL i j (by omega) (by omega)⟩
   ·simp only[kJ,hl,true_and,g6,lA,List.length_singleton]
    by_cases e:r=(s (c+n)).rows.length
    ·subst e
     rw[if_pos ⟨aO _,Nat.lt_succ_self _⟩]
     simp[Ctx.add,aK]
    ·rw[if_neg (by omega)]
     simp only[Ctx.add,if_neg e];exact hR r
   ·simp only[jf,hl,true_and,g1,aL]
    split
    ·rename_i tY
     rw[g8 t tY,g5]
     obtain⟨e,q1,_⟩:=g4.cells
     exact⟨row,(Ctx.jc _ _ _ _).1,by simp[Ctx.add],by rw[q1];simp[ao.l],by simp[(Ctx.jc _ _ _ _).2]⟩
    ·rename_i tY
     refine Ap hg (hE t ht λk o' EP oP dz=>?_)
     by_cases e:k=c+n
     ·subst e;rw[g1]at dz;cases dz;exact tY
     ·exact he k o' (by omega) oP dz
   ·by_cases e:r=(s (c+n)).rows.length
    ·right;right
     rw[e];simp only[Ctx.add,if_true];exact g7.jC
    ·have nH:cx.R r=some x:=by simpa[Ctx.add,e]using hr
     have MK:¬cx.V r:=by simpa[Ctx.add,e]using hv
     have:=oh.ov r x nH MK
     simpa only[Ctx.add,if_neg e]using this
   ·obtain⟨o',t',ak,iP,f1,f2,f3,f4,f5,f6,f7,f8,f9⟩:=nW i (by omega) HG
    refine⟨o',t',ak,iP,f1,f2,f3,f4,f5,f6,⟨f7.jC,f7.lt,f7.here,f7.fu,λr x hr hv e'=>?_⟩,f8,f9⟩
    by_cases e:r=(s (c+n)).rows.length
    ·rw[e]at e'
     simp only[Ctx.add,if_true]at e'
     have:=oL (c+n) i (aO _) (by omega) hl HG e'
     omega
    ·exact f7.row r x (by simpa[Ctx.add,e]using hr) (by simpa[Ctx.add,e]using hv) (by simpa only[Ctx.add,if_neg e]using e')
section
variable {P:Program} {G:List bc} {N M:Nat} {ops:Array Oper} {s:Nat->St} {ks:Nat->List Nat} {val:Nat->D} (hc:Vz P G N M ops s ks val) (mN:Rq G ops (s ops.size).env=true)
include hc mN
theorem xy {c0 :Ctx}{w0:World}{dq gl:Nat->Bool}{a:Act}{w:World}{c d i:Nat}{o:Oper}(hI:Inv2 P G N M ops s ks val c0 w0 dq a w c d)(ho:ops[i]? =some o)(h0:dq i=false)(h1:gl i=true)(h2: ∀k,k≠i->gl k=dq k)
    (Nn: ∀e∈o.after,Region.binds .any e=true->dq e.on=true) {K:Act->World->Prop} {Q:Exit->Act->World->Prop} (hK: ∀a' w' c' d',Inv2 P G N M ops s ks val c0 w0 gl a' w' c' d'->K a' w'):wpOp P ops Q i K a w:=by
  have cj:=(Array.getElem?_eq_some_iff.1 ho).1
  have rj: ∀k,((Region.before ops).getD i 0).testBit k=true->dq k=true:=λk hk=>
    SD (listed:=λk=>dq k=true) hI.closed (λo' jg=>by rw[ho]at jg;cases jg;exact Nn) hk
  have og: ∀j k,dq j=true->((Region.before ops).getD j 0).testBit k=true->dq k=true:=λj k hj hk=>
    SD (listed:=λk=>dq k=true) hI.closed (hI.closed j hj) hk
  have tZ: ∀j,gl j=true-> ∀(o:Oper),ops[j]? =some o-> ∀e∈o.after,Region.binds .any e=true->gl e.on=true:=by
    intro j hj o' jg e he hb
    have gr:dq e.on=true:=by
      by_cases e':j=i
      . subst e';rw[ho]at jg;cases jg;exact Nn e he hb
      . rw[h2 j e']at hj;exact hI.closed j hj o' jg e he hb
    rw[h2 e.on (λe'=>by rw[e',h0]at gr;cases gr)]
    exact gr
  have DP: ∀{x:Oper} {t:TypeId} {y:Operand},x.op= .load t y->lH G x.op=true:=λh=>by rw[h];rfl
  have hpu: ∀{x:Oper} {env:List (Nat×D)} {q:List Nat},mg env x.op=some q->lH G x.op=true:=λh=>by
    unfold lH;rw[(Z2w (G:=G) h).1];rfl
  have HF: ∀{x:Oper} {t:TypeId},x.op= .alloc t->lH G x.op=true:=λh=>by rw[h];rfl
  obtain⟨cx,B,hm,hR,hE,oh,nW,oL⟩:=hI.ctx
  have F9:dq d=false:=by
    cases hl:dq d with
    |false=>rfl
    | true=>
      obtain⟨o',t,_,_,g1,_,g3,_⟩:=nW d (aO _) hl
      have:=hI.wr _ g1
      rw[HF g3]at this;cases this
  have hid:i<=d\/(d<i/\(∃t,o.guard=none/\o.op= .alloc t)/\ ∀u,o.dst=some u-> ∀k o',k≠i->ops[k]? =some o'->o'.dst≠some u):=by
    by_cases h:i<=d
    . exact .inl h
    . right
      have BO:ops[d]? =some ops[d]:=aJ (by omega)
      have:=(Gk mN (show d<i by omega) BO ho).2
      rcases this with⟨hq,_⟩|hb|hb|hb
      . rw[hI.wr _ BO]at hq;cases hq
      . have:=rj d hb
        rw[F9]at this;cases this
      . rcases Ro BO ho hb with⟨t,b,t',b',z,r,r',ii,off,mq,iQ,g1,g2,g3,_⟩|⟨q,g1,g2,g3,_⟩|⟨q,g1,g3,_⟩|⟨_,_,_,_,_,_,_,_,_,g1,g2,g3,_⟩|⟨_,_,_,_,_,_,_,_,g1,g2,g3,_⟩
        . have:=DP g3
          rw[hI.wr _ BO]at this;cases this
        . have:=hpu g3
          rw[hI.wr _ BO]at this;cases this
        . have:=hpu (Vy (env:=[]) g3)
          rw[hI.wr _ BO]at this;cases this
        . have:=DP g3
          rw[hI.wr _ BO]at this;cases this
        . have:=DP g3
          rw[hI.wr _ BO]at this;cases this
      . exact⟨by omega,hb⟩
  have WD:=hI.cd
  have Iw:=hI.dn
  have jm:cx.base<=w.heap.size:=by rw[oh.cf.base];exact Nat.le_trans hI.gj oh.fr.size
  have seen: ∀k o' t,k<i->ops[k]? =some o'->o'.dst=some t->t∈o.looksAt ops->dq k=true:=by
    intro k o' t hk jg hd ht
    rcases(Gk mN hk jg ho).1 with ua|hb
    . exact((Gs ua).2.1 hd ht).elim
    . exact rj _ hb
  have Dz: ∀k o' t,d<=k->dq k=true->ops[k]? =some o'->t∈o.looksAt ops->i<=d->o'.dst≠some t:=by
    intro k o' t hk hl jg ht hid hd
    have oi:i<k:=by
      by_cases e:k=i
      . rw[e,h0]at hl;cases hl
      . omega
    rcases(Gk mN oi ho jg).1 with ua|hb
    . exact(Gs ua).2.2 hd ht
    . have:=og _ _ hl hb
      rw[h0]at this;cases this
  rcases hid with hid|⟨hdi,⟨t0,hg0,ho0⟩,KN⟩
  rotate_left
  ·
    obtain⟨hks,row,arr,hA,hv,cw⟩:=(hc.mM i o ho).al t0 hg0 ho0
    unfold wpOp
    simp only[ho]
    have hw:Region.wanted o (yielded ops a.tmps)=true:=by simp [Region.wanted,hg0]
    rw[if_pos hw]
    refine Gz (hA.run a.eval w) ?_
    have hmn:=Zp0 hm (.cells arr row.ty)
    have wF:=Qpi hm (.cells arr row.ty)
    have hn:jH [] cx w cx (w.alloc (.cells arr row.ty)):=lW.toK ⟨hmn,wF,Fr.alloc _ w _,λb hb=> .inl hb,λr row hr v=> .inl ⟨⟨row,hr⟩,v,rfl⟩⟩
    refine hK _ _ c d ⟨hI.cd,hI.dn,λk hk=>by rw[h2 k (by omega)];exact hI.pre k hk,hI.quiet,hI.wr,tZ,?_,?_,hI.gj,hI.gw,cx,λk=>if k=i then w.heap.size else B k,hmn,λr=> ?_,λt ht he=> ?_,oh.step (ks:=[]) (λk hk=>by simp [cb]at hk) hI.gw hn,λk hdk hl=> ?_,λk j hk hj oP AY e=> ?_⟩
    . cases hd:o.dst<;>simp [Act.put]<;>exact hI.size
    . first|exact mi.put (hI.defers.step hm hn.fr)|exact mi.put (hI.defers.step hm hn.toW.fr)
    . rw[hR,SJ (λk hk=>h2 _ (by omega))]
    . rw[SI (λk hk=>h2 _ (by omega))]
      refine VA hI.size (λu=>hc.dst i o u ho) (λhd=>(he i o (by omega) h1 ho hd).elim) (λhd=> ?_)
      exact Ap wF (hE t (λk o' hk hl dz=>ht k o' hk (by rw[h2 k (by omega)];exact hl) dz) (λk o' hk hl dz=>he k o' hk (by rw[h2 k (λe'=>by rw[e',h0]at hl;cases hl)];exact hl) dz))
    . by_cases e:k=i
      . subst e
        simp only[if_true]
        exact⟨o,t0,row,arr,ho,hg0,ho0,hA,hv,cw,⟨oh.fr.size,by rw[Qyc];omega,U0 w _,λhb=>by have:=(hm.fu _ hb).1;omega,λr ak hr MK e=>by have:=hm.lt hr MK;omega⟩,λu hu=>yT hu (bI (hc.dst k o u ho hu) hI.size),KN⟩
      . simp only[if_neg e]
        rw[h2 k e]at hl
        exact(nW k hdk hl).bf hn (Ne.symm e) ho
    . have key: ∀k,d<=k->gl k=true->k≠i->B k<w.heap.size:=λk hk oP e=>by
        rw[h2 k e]at oP
        obtain⟨_,_,_,_,_,_,_,_,_,_,g7,_⟩:=nW k hk oP
        exact g7.lt
      by_cases e1:k=i<;>by_cases e2:j=i
      . rw[e1,e2]
      . simp only[if_pos e1,if_neg e2]at e
        have:=key j hj AY e2;omega
      . simp only[if_neg e1,if_pos e2]at e
        have:=key k hk oP e1;omega
      . simp only[if_neg e1,if_neg e2]at e
        exact oL k j hk hj (by rw[<-h2 k e1];exact oP) (by rw[<-h2 j e2];exact AY) e
  by_cases pR:c<=i
  . by_cases e:i=d
    ·
      subst e
      have iS: ∀k o',c<=k->k<i->ops[k]? =some o'->dq k=true\/MW G ops (s ops.size).env k i=true:=λk o' oj rR dz=>by
        rcases(Gk mN rR dz ho).2 with⟨_,hq⟩|hb|hb|⟨⟨t4,_,g4⟩,_⟩
        . rw[hI.wr _ ho]at hq;cases hq
        . exact .inl (rj _ hb)
        . exact .inr hb
        . have:=hI.wr _ ho
          rw[HF g4]at this;cases this
      have hnr: ∀k o',c<=k->k<i->ops[k]? =some o'->MW G ops (s ops.size).env k i=true->(s (k+1)).rows=(s k).rows:=λk o' oj rR dz hb=>by
        rcases Ro dz ho hb with⟨t,b,t',b',z,r,r',ii,off,mq,iQ,g1,g2,g3,g4,g5,g6,g7,g8,g9⟩|⟨q,g1,g2,g3,g4,_⟩|⟨q,g1,g3,_⟩|⟨t,b,r,ii,off,_,_,_,_,g1,g2,g3,g5,g7,_⟩|⟨t,b,r,ii,off,_,_,_,g1,g2,g3,g5,g7,_⟩
        . exact((hc.mM k o' dz).ld t b r ii off g1 g3 (ED hc g5 g7 (aO _) (by omega))).2.1
        . exact((hc.mM k o' dz).pu q g1 (Zno hc g3 g4 (aO _) (by omega))).2.1
        . exact((hc.mM k o' dz).pu q g1 (Vy g3)).2.1
        . exact((hc.mM k o' dz).ld t b r ii off g1 g3 (ED hc g5 g7 (aO _) (by omega))).2.1
        . exact((hc.mM k o' dz).ld t b r ii off g1 g3 (ED hc g5 g7 (aO _) (by omega))).2.1
      have cw: ∀r,cx.R r=(s i).rows.getD r none:=λr=>by
        rw[hR,Z8l hc hI.quiet Iw (by omega) (λk hk=>by
          have dz:ops[c+k]? =some ops[c+k]:=aJ (by omega)
          rcases iS (c+k) _ (by omega) (by omega) dz with h|h
          . exact .inl h
          . exact .inr (hnr (c+k) _ (by omega) (by omega) dz h)),show c+(i-c)=i by omega]
      have tu: ∀t,(∀k o',k<i->dq k=false->ops[k]? =some o'->o'.dst≠some t)->(∀k o',i<=k->dq k=true->ops[k]? =some o'->o'.dst≠some t)->Rep cx w (look (s i).env t) (a.tmps.getD t undef):=λt ht he=>by
        have:=hE t (λk o' hk=>ht k o' (by omega)) he
        rwa [Zh9 hc hI.quiet Iw (by omega) (λk o' hk dz hd=>by
          cases hl:dq (c+k) with
          |true=>rfl
          |false=>exact(ht _ _ (by omega) hl dz hd).elim),show c+(i-c)=i by omega]at this
      refine xaz (M:=M) ho hm jm cw (λt ht=>tu t (λk o' hk hl dz hd=>by rw[seen k o' t hk dz hd ht]at hl;cases hl) (λk o' hk hl dz=>Dz k o' t hk hl dz ht (aO _))) (hc.op i o ho) λv w' c' hM hn j4 hv=> ?_
      obtain⟨d',g1,g2,g3,g4⟩:=Nl G ops _ (i+1) rfl (by omega)
      have bf: ∀k o' t b r ii off row,k<i->ops[k]? =some o'->dq k=false->o'.guard=none->o'.op= .load t (.tmp b)->lC ops k b=true->look (s ops.size).env b= .ptr r ii off->(s i).rows.getD r none=some row->(ks i=[]/\(s (i+1)).rows.getD r none=some row)\/(Rr ops (s ops.size).env k o'/\(s (i+1)).rows.getD r none=some (row.kill (ks i))):=by
        intro k o' t b r ii off row hk dz hl q1 q2 q3 q4 q5
        rcases(Gk mN hk dz ho).2 with⟨_,hq⟩|hb|hb|⟨⟨t4,_,g4⟩,_⟩
        rotate_right
        . have:=hI.wr _ ho
          rw[HF g4]at this;cases this
        . rw[hI.wr _ ho]at hq;cases hq
        . rw[rj _ hb]at hl;cases hl
        . rcases Ro dz ho hb with⟨t1,b1,t',b',z,r1,r',Rv,DA,mq,iQ,p1,p2,p3,p4,p5,p6,p7,p8,p9⟩|⟨q,p1,p2,p3,_⟩|⟨q,p1,p3,_⟩|⟨t1,b1,r1,Rv,DA,args,dd,x0,l0,p1,p2,p3,p4,p5,p6,p7,p8,p9⟩|⟨t1,b1,r1,Rv,DA,args,dd,td,p1,p2,p3,p4,p5,p6,p7,p8,p9⟩
          . rw[q2]at p3;cases p3
            rw[q4]at p7;cases p7
            obtain⟨f1,f2⟩:=(hc.mM i o ho).st t' b' z r' mq iQ p2 p4 (ED hc p6 p8 (by omega) (by omega))
            exact .inl ⟨f1,by rw[f2 r p9];exact q5⟩
          . rw[q2]at p3;simp [mg,pP,bz,q4]at p3
          . rw[q2]at p3;cases p3
          . obtain⟨f1,f2⟩:=(hc.mM i o ho).ap args dd x0 l0 p2 p6 p7 (by rw[EE hc p8 (Zdk p9) (by omega) (by omega)];exact p9)
            exact .inl ⟨f1,f2 r row q5⟩
          . refine .inr ⟨⟨td,p7,p8,p9⟩,(hc.mM i o ho).ap2 args dd p2 p6 r row q5 ?_⟩
            have e1:=ED hc q3 q4 (show k<=i by omega) (by omega)
            have e2:=ED hc q3 q4 (show k<=i+1 by omega) (by omega)
            rw[hc.env i o b ho,if_neg (Kk q3 (by omega) ho),Ca,e1]at e2
            cases hb:cb r (ks i) with
            |false=>rfl
            |true=>simp [D.gq,D.kill,D.ek,hb]at e2
      have H9: ∀k o' q,k<i->ops[k]? =some o'->dq k=false->mg (s ops.size).env o'.op=some q->ks i=[]\/Kl ops (s ops.size).env k o' q:=by
        intro k o' q hk dz hl hq
        rcases(Gk mN hk dz ho).2 with⟨_,Gj⟩|hb|hb|⟨⟨t4,_,g4⟩,_⟩
        rotate_right
        . have:=hI.wr _ ho
          rw[HF g4]at this;cases this
        . rw[hI.wr _ ho]at Gj;cases Gj
        . rw[rj _ hb]at hl;cases hl
        . rcases Ro dz ho hb with⟨t1,b1,t',b',z,r1,r',Rv,DA,mq,iQ,p1,p2,p3,p4,p5,p6,p7,p8⟩|⟨q,p1,p2,p3,p4,p5⟩|⟨q',p1,p3,p4⟩|⟨t1,b1,r1,Rv,DA,args,dd,x0,l0,p1,p2,p3,p4,p5,_⟩|⟨t1,b1,r1,Rv,DA,args,dd,td,p1,p2,p3,p4,p5,_⟩
          rotate_right
          . rw[p3]at hq;simp [mg,pP,bz,p5]at hq
          rotate_right
          . rw[p3]at hq;simp [mg,pP,bz,p5]at hq
          . rw[p3]at hq;simp [mg,pP,bz,p7]at hq
          . rcases p5 with⟨t',b',z,r',mq,iQ,p5,p6,p7⟩|⟨f,args,dd,p5,p6⟩
            . exact .inl ((hc.mM i o ho).st t' b' z r' mq iQ p2 p5 (ED hc p6 p7 (by omega) (by omega))).1
            . exact .inl ((hc.mM i o ho).cl f args dd p2 p5 p6)
          . rw[Vy p3]at hq;cases hq
            exact .inr p4
      have Gl: ∀k,c<=k->k<i->ks k=[]:=λk oj rR=>by
        have dz:ops[k]? =some ops[k]:=aJ (by omega)
        exact(Ws (hc.op k _ dz) (hI.quiet k _ oj rR dz)).1
      have Rw: ∀t,(∀k o,k<i+1->gl k=false->ops[k]? =some o->o.dst≠some t)->(∀k o,i+1<=k->gl k=true->ops[k]? =some o->o.dst≠some t)->Rep c' w' (look (s (i+1)).env t) ((a.put o.dst v).tmps.getD t undef):=by
        intro t ht he
        rw[hc.env i o t ho]
        refine VA hI.size (λu=>hc.dst i o u ho) (λhd=>by rw[if_pos hd];exact hv) (λhd=> ?_)
        rw[if_neg hd,Ca]
        refine Ap hn.cf (WS (tu t (λk o' hk hl dz=> ?_) (λk o' hk hl dz=> ?_)))
        . exact ht k o' (by omega) (by rw[h2 k (by omega)];exact hl) dz
        . have gr:k≠i:=λe'=>by rw[e',h0]at hl;cases hl
          exact he k o' (by omega) (by rw[h2 k gr];exact hl) dz
      refine hK _ w' (i+1) d' ⟨g1,g2,λk hk=> ?_,g3,g4,tZ,?_,?_,hI.gj,hI.gw,by
        have:=Rt hc (c0:=c0) (w0:=w0) (w:=w') (dq:=gl) (a:=a.put o.dst v) (c:=i+1) (d:=d') g3 g2 ⟨c',B,hn.mem,j4,Rw,oh.step hM hI.gw hn,λk hk oP=>(nW k (by omega) (by rw[<-h2 k (by omega)];exact oP)).bf hn (by omega) ho,λk j hk hj oP AY e=>oL k j (by omega) (by omega) (by rw[<-h2 k (by omega)];exact oP) (by rw[<-h2 j (by omega)];exact AY) e⟩ (d'-(i+1)) (by omega)
        rwa [show i+1+(d'-(i+1))=d' by omega]at this⟩
      . by_cases e' : k=i
        . rw[e'];exact .inl h1
        . rw [h2 k e']
          cases hl:dq k with
          |true=>exact .inl rfl
          | false =>
            right
            by_cases Wv:k<c
            . rcases hI.pre k Wv with h|h
              . rw[hl]at h;cases h
              . rcases h with h|⟨o',q,q1,q2,q3,q4,q8⟩
                rotate_left
                . rcases q8 with q8|q8
                  rotate_left
                  . exact .inr ⟨o',q,q1,q2,q3,q4, .inr q8⟩
                  rcases H9 k o' q (by omega) q1 hl q3 with f1|f1
                  rotate_left
                  . exact .inr ⟨o',q,q1,q2,q3,q4, .inr f1⟩
                  refine .inr ⟨o',q,q1,q2,q3,q4, .inl λk' oj rR=> ?_⟩
                  by_cases KO:k'<c
                  . exact q8 k' oj KO
                  . by_cases Ek:k'<i
                    . exact Gl k' (by omega) Ek
                    . rw[show k'=i by omega];exact f1
                obtain⟨o',t,b,r,ii,off,row,ak,q1,q2,q3,q4,q5,q6,q7,q8⟩:=h
                have rI:r<(s c).rows.length:=by
                  by_cases hh:r<(s c).rows.length
                  . exact hh
                  . simp only[aK,aM (show(s c).rows.length<=r by omega)]at q7;cases q7
                have iJ:=KI hc.toChain hI.quiet Iw (aO c) pR (aO i) rI
                rcases bf k o' t b r ii off ak (by omega) q1 hl q2 q3 q4 q5 (by rw[iJ];exact q7) with⟨f1,f2⟩|⟨f1,f2⟩
                . rcases q8 with⟨e8,q8⟩|q8
                  . refine .inl ⟨o',t,b,r,ii,off,row,ak,q1,q2,q3,q4,q5,q6,f2, .inl ⟨e8,λk' oj rR=> ?_⟩⟩
                    by_cases KO:k'<c
                    . exact q8 k' oj KO
                    . by_cases Ek:k'<i
                      . exact Gl k' (by omega) Ek
                      . rw[show k'=i by omega];exact f1
                  . exact .inl ⟨o',t,b,r,ii,off,row,ak,q1,q2,q3,q4,q5,q6,f2, .inr ⟨q8.1,q8.2.elim λL hL=>⟨L,hL.1,λkk hk=>(hL.2 kk hk).elim λj hj=>⟨j,hj.1,by omega,hj.2.2⟩⟩⟩⟩
                . refine .inl ⟨o',t,b,r,ii,off,row,_,q1,q2,q3,q4,q5,q6,f2, .inr ⟨f1,?_⟩⟩
                  rcases q8 with⟨e8,_⟩|⟨_,L,e8,hL⟩
                  . exact⟨[ks i],by rw[e8];rfl,λkk hk=>⟨i,by omega,by omega,List.mem_singleton.1 hk⟩⟩
                  . refine⟨L++[ks i],by rw[List.foldl_append,<-e8];rfl,λkk hk=> ?_⟩
                    rcases List.mem_append.1 hk with hk|hk
                    . obtain⟨j,j1,j2,j3⟩:=hL kk hk
                      exact⟨j,j1,by omega,j3⟩
                    . exact⟨i,by omega,by omega,List.mem_singleton.1 hk⟩
            . have dz:ops[k]? =some ops[k]:=aJ (by omega)
              rcases iS k _ (by omega) (by omega) dz with h|h
              . rw[hl]at h;cases h
              . have go: ∀t b r ii off,ops[k].guard=none->ops[k].op= .load t (.tmp b)->lC ops k b=true->look (s ops.size).env b= .ptr r ii off->Rs ops s ks k (i+1):=by
                  intro t b r ii off p1 p3 p5 p7
                  obtain⟨row,cg⟩:=((hc.mM k _ dz).ld t b r ii off p1 p3 (ED hc p5 p7 (aO _) (by omega))).2.2.1
                  have rI:r<(s k).rows.length:=by
                    by_cases hh:r<(s k).rows.length
                    . exact hh
                    . simp only[aK,aM (show(s k).rows.length<=r by omega)]at cg;cases cg
                  have iJ:=KI hc.toChain hI.quiet Iw (show c<=k by omega) (show k<=i by omega) (aO i) rI
                  rcases bf k _ t b r ii off row (by omega) dz hl p1 p3 p5 p7 (by rw[iJ];exact cg) with⟨f1,f2⟩|⟨f1,f2⟩
                  rotate_left
                  . exact .inl ⟨_,t,b,r,ii,off,row,_,dz,p1,p3,p5,p7,cg,f2, .inr ⟨f1,[ks i],rfl,λkk hk=>⟨i,by omega,by omega,List.mem_singleton.1 hk⟩⟩⟩
                  refine .inl ⟨_,t,b,r,ii,off,row,row,dz,p1,p3,p5,p7,cg,f2, .inl ⟨rfl,λk' oj rR=> ?_⟩⟩
                  by_cases Ek:k'<i
                  . exact Gl k' (by omega) Ek
                  . rw[show k'=i by omega];exact f1
                rcases Ro dz ho h with⟨t,b,t',b',z,r,r',ii,off,mq,iQ,p1,p2,p3,p4,p5,p6,p7,p8,p9⟩|⟨q,p1,p2,p3,p4,p5⟩|⟨q,p1,p3,p4⟩|⟨t,b,r,ii,off,_,_,_,_,p1,p2,p3,p5,p7,_⟩|⟨t,b,r,ii,off,_,_,_,p1,p2,p3,p5,p7,_⟩
                rotate_right
                . exact go t b r ii off p1 p3 p5 p7
                rotate_left 2
                rotate_left
                . exact go t b r ii off p1 p3 p5 p7
                rotate_right
                . exact .inr ⟨_,q,dz,p1,Vy p3,λa ha=>(p4.1 a ha).1, .inr p4⟩
                rotate_left
                . rcases H9 k _ q (by omega) dz hl p3 with f1|f1
                  rotate_left
                  . exact .inr ⟨_,q,dz,p1,p3,p4, .inr f1⟩
                  refine .inr ⟨_,q,dz,p1,p3,p4, .inl λk' oj rR=> ?_⟩
                  by_cases Ek:k'<i
                  . exact Gl k' (by omega) Ek
                  . rw[show k'=i by omega];exact f1
                exact go t b r ii off p1 p3 p5 p7
      . cases hd:o.dst<;>simp [Act.put]<;>exact hI.size
      . first|exact mi.put (hI.defers.step hm hn.fr)|exact mi.put (hI.defers.step hm hn.toW.fr)
    ·
      have Iu:i<d:=by omega
      have hq:=hI.quiet i o pR Iu ho
      have No:=Wr hq
      have Np: ∀t∈o.looksAt ops,Rep cx w (look (s i).env t) (a.tmps.getD t undef):=λt ht=>by
        have Iv : ∀n,c+n<=d->jf ops s val dq c n t=if c+n<=i then look (s (c+n)).env t else look (s i).env t:=by
          intro n
          induction n with
          |zero=>intro _;simp only[jf,bG];rw[if_pos pR]
          | succ n ih=>
            intro hn
            obtain⟨ok,dz⟩: ∃ok,ops[c+n]? =some ok:=⟨_,aJ (show c+n<ops.size by omega)⟩
            have ih:=ih (by omega)
            simp only[jf,dz,aL]
            by_cases hk:c+n<i
            . have hA:c+(n+1)<=i:=by omega
              have SK:c+n<=i:=by omega
              rw[if_pos hA,show c+(n+1)=c+n+1 by omega,hc.toChain.ER dz (hI.quiet _ _ (by omega) (by omega) dz) t]
              rw[if_pos SK]at ih
              by_cases hd:ok.dst=some t
              . rw[if_pos ⟨seen _ _ t hk dz hd ht,hd⟩,if_pos hd]
              . rw[if_neg (λg=>hd g.2),if_neg hd,ih]
            . have Ix: ¬(dq (c+n)=true/\ok.dst=some t):=by
                rintro⟨g1,g2⟩
                by_cases e':c+n=i
                . rw[e',h0]at g1;cases g1
                . have oi:i<c+n:=by omega
                  rcases(Gk mN oi ho dz).1 with ua|hb
                  . exact(Gs ua).2.2 g2 ht
                  . have:=og _ _ g1 hb
                    rw[h0]at this;cases this
              have hA: ¬c+(n+1)<=i:=by omega
              rw[if_neg Ix,ih,if_neg hA]
              split
              . rw[show c+n=i by omega]
              . rfl
        have:=hE t (λk o' hk hl dz hd=>by rw[seen k o' t (by omega) dz hd ht]at hl;cases hl) (λk o' hk hl dz=>Dz k o' t hk hl dz ht hid)
        rw[Iv (d-c) (by omega),if_neg (by omega)]at this
        exact this
      have hlen: ∀k l,c<=k->k<=l->l<=d->(s k).rows.length<=(s l).rows.length:=λk l h1 h2 h3=>KH hc.toChain hI.quiet hI.dn h1 h2 h3
      have iY: ∀k l,c<=k->k<=l->l<=d-> ∀r,r<(s k).rows.length->(s l).rows.getD r none=(s k).rows.getD r none:=λk l h1 h2 h3 r hr=>KI hc.toChain hI.quiet hI.dn h1 h2 h3 hr
      have BP: ∀n,c+n<=d-> ∀r,r<(s i).rows.length-> ∀row,kJ s dq c n r=some row->(s i).rows.getD r none=some row:=by
        intro n
        induction n with
        | zero=>
          intro _ r hr row h
          simp only[kJ]at h
          by_cases Ww:r<(s c).rows.length
          . rw[iY c i (aO _) pR (by omega) r Ww];exact h
          . simp only[aK,aM (show(s c).rows.length<=r by omega)]at h;cases h
        | succ n ih=>
          intro hn r hr row h
          simp only[kJ]at h
          split at h
          . rename_i g
            obtain⟨g1,g2,g3⟩:=g
            have Wx:c+n<i:=by
              by_cases mY:c+n<i
              . exact mY
              . by_cases e':c+n=i
                . rw[e',h0]at g1;cases g1
                . have:=hlen i (c+n) pR (by omega) (by omega);omega
            rw[iY (c+n+1) i (by omega) (by omega) (by omega) r g3];exact h
          . exact ih (by omega) r hr row h
      have BQ: ∀n,c+n<=d-> ∀r,(s i).rows.length<=r->r<(s (i+1)).rows.length->kJ s dq c n r=none:=by
        intro n
        induction n with
        | zero=>
          intro _ r h1 h2
          have:=hlen c i (aO _) pR (by omega)
          simp only[kJ,aK,aM (show(s c).rows.length<=r by omega),Option.getD_none]
        | succ n ih=>
          intro hn r h1 h2
          simp only[kJ]
          rw[if_neg]
          . exact ih (by omega) r h1 h2
          . rintro⟨g1,g2,g3⟩
            by_cases e':c+n=i
            . rw[e',h0]at g1;cases g1
            . by_cases mY:c+n<i
              . have:=hlen (c+n+1) i (by omega) (by omega) (by omega);omega
              . have:=hlen (i+1) (c+n) (by omega) (by omega) (by omega);omega
      have pq:mO cx (s i).rows:=λr row ak g1 g2=>by
        have hr:r<(s i).rows.length:=by
          by_cases h:r<(s i).rows.length
          . exact h
          . simp only[aK,aM (show(s i).rows.length<=r by omega)]at g2;cases g2
        rw[hR]at g1
        have:=BP (d-c) (by omega) r hr row g1
        rw[this]at g2;exact Option.some.inj g2
      have fin: ∀v w' c',KG cx w (s i).rows (s (i+1)).rows c' w'->Rep c' w' (val i) v->K (a.put o.dst v) w':=by
        intro v w' c' hn hv
        refine hK _ w' c d ⟨hI.cd,hI.dn,λk hk=>by rw[h2 k (by omega)];exact hI.pre k hk,hI.quiet,hI.wr,tZ,?_,?_,hI.gj,hI.gw,c',B,hn.mem,λr=> ?_,λt ht he=> ?_,oh.step (ks:=[]) (λk hk=>by simp [cb]at hk) hI.gw hn.toW.toK,λk hk oP=>(nW k hk (by rw[<-h2 k (by omega)];exact oP)).bf hn.toW.toK (by omega) ho,λk j hk hj oP AY e=>oL k j hk hj (by rw[<-h2 k (by omega)];exact oP) (by rw[<-h2 j (by omega)];exact AY) e⟩
        . cases hd:o.dst<;>simp [Act.put]<;>exact hI.size
        . first|exact mi.put (hI.defers.step hm hn.fr)|exact mi.put (hI.defers.step hm hn.toW.fr)
        . rw[hn.rows,hR,Wu pR h0 h1 h2 (d:=d) (λk oj rR=>hlen (i+1) k (by omega) (by omega) (by omega)) (by omega) (by omega)]
        . have hl: ∀k o',i<k->dq k=true->ops[k]? =some o'->o'.dst=some t->o.dst=some t->False:=by
            intro k o' oi hk dz Wy Wz
            rcases(Gk mN oi ho dz).1 with ua|hb
            . exact(Gs ua).1 Wz Wy
            . have:=og _ _ hk hb
              rw[h0]at this;cases this
          rw[Wt ho pR h0 h1 h2 hl (by omega)]
          have hold:=Ap hn.cf (hE t (λk o' hk hl dz=>ht k o' hk (by rw[h2 k (by omega)];exact hl) dz) (λk o' hk hl dz=>he k o' hk (by rw[h2 k (by omega)];exact hl) dz))
          refine VA hI.size (λu=>hc.dst i o u ho) (λhd=>by rw[if_pos hd];exact hv) (λhd=>by rw[if_neg hd];exact hold)
      have skip:val i= .du []->(s (i+1)).rows=(s i).rows->K (a.put o.dst undef) w:=λe1 e2=>
        fin undef w cx ⟨hm,jn.refl _ _,Fr.refl _ _,λb hb=> .inl hb,λr=>by rw[e2,if_neg (by omega)],λ_ _=>⟨rfl,Iff.rfl⟩,λr g1 g2=>by rw[e2]at g2;omega⟩ (by rw[e1];exact SL _ _)
      have run:pQ P G M o (bz (s i).env) (s i).rows (ks i) (val i) (s (i+1)).rows->o.ny P a w K Q:=λhX=>by
        unfold pQ at hX
        rw[No]at hX
        refine hX.2.2 cx w a hm jm pq (λr g1 g2=>by rw[hR];exact BQ (d-c) (by omega) r g1 g2) (λx hx=> ?_) K Q fin
        cases x with
        | tmp t=>
          refine Np t ?_
          unfold Oper.looksAt
          exact gQ _ (List.mem_filterMap.2 ⟨.tmp t,by simpa using hx,rfl⟩)
        | const v=>
          simp only[bz,Act.eval]
          cases hv:Gt v with
          |none=>trivial
          |some d=>exact Nq hv cx w
        |global g=>trivial
        |func f=>exact KJ f
      have hG:=hc.op i o ho
      unfold wpOp
      simp only[ho]
      unfold nG at hG
      cases hg:o.guard with
      | none=>
        simp only[hg]at hG
        have hw:Region.wanted o (yielded ops a.tmps)=true:=by simp [Region.wanted,hg]
        rw[if_pos hw]
        exact run hG
      | some jw=>
        obtain⟨j,want⟩:=jw
        simp only[hg]at hG
        obtain⟨g,g2,hG⟩:=hG
        have hr:=Np g (by
          unfold Oper.looksAt
          refine gP _ ?_
          simp only[hg,g2];simp)
        rcases hG with⟨b,g3,g4⟩|⟨g3,_,e1,e2⟩
        rotate_left
        . rw[g3]at hr
          rw[if_neg (by rw[SM (o:=o) hg g2 hr];simp)]
          exact skip e1 e2
        rw[g3]at hr
        have hw:=SN (o:=o) hg g2 hr
        by_cases e':b=want
        . rw[if_pos e']at g4
          rw[if_pos (by rw[hw];simpa using e')]
          exact run g4
        . rw[if_neg e']at g4
          rw[if_neg (by rw[hw];simpa using e')]
          exact skip g4.2.1 g4.2.2
  ·
    have hic:i<c:=by omega
    rcases hI.pre i hic with h|h
    . rw[h0]at h;cases h
    have Rx: ∀b,lC ops i b=true->(∀k,i<k->k<c->ks k=[])->ks i=[]->look (s c).env b=look (s i).env b:=by
      intro b hb q8 q9
      have: ∀k,i<=k->k<=c->look (s k).env b=look (s i).env b:=by
        intro k
        induction k with
        |zero=>intro h1 _;rw[show i=0 by omega]
        | succ k ih=>
          intro h1 h2
          by_cases e':i=k+1
          . rw[e']
          . have dz:ops[k]? =some ops[k]:=aJ (by omega)
            rw[hc.env k _ b dz,if_neg (Kk hb (by omega) dz)]
            by_cases e2:k=i
            . rw[e2,q9,pn]
            . rw[q8 k (by omega) (by omega),pn];exact ih (by omega) (by omega)
      exact this c (by omega) (aO _)
    have oJ: ∀b,lC ops i b=true->b∈o.looksAt ops->Rep cx w (look (s c).env b) (a.tmps.getD b undef):=λb hnb NT=>by
      have:=hE b (λk o' hk hl dz hd=>by
        by_cases Wx:k<i
        . rw[seen k o' b Wx dz hd NT]at hl;cases hl
        . exact Kk hnb (by omega) dz hd) (λk o' hk hl dz=>Dz k o' b hk hl dz NT hid)
      rwa [Qwn hc (λk o' hk dz hd=>(Kk hnb (by omega) dz hd).elim)]at this
    obtain ⟨q2,q8,hN,Du⟩:o.guard=none/\((∀k,i<k->k<c->ks k=[])\/ ∀t,o.dst=some t->lC ops (i+1) t=true/\tw (look (s ops.size).env t)=true)/\pT P o (bz (s c).env) (s c).rows (val i) (s c).rows/\ ∀x∈o.op.operands,Rep cx w (bz (s c).env x) (a.eval x):=by
      rcases h with⟨o',t0,b,r,ii,off,row,ak,q1,q2,q3,q4,q5,q6,q7,q8⟩|⟨o',q,q1,q2,q3,q4,q8⟩
      . rw [ho]at q1;cases q1
        have hpc:look (s c).env b= .ptr r ii off:=ED hc q4 q5 (by omega) (by omega)
        have hpi:look (s i).env b= .ptr r ii off:=ED hc q4 q5 (by omega) (by omega)
        have tA:=(hc.mM i o ho).ld t0 b r ii off q2 q3 hpi
        have ey:bz (s c).env (.tmp b)= .ptr r ii off:=by simp [bz,hpc]
        have q9:((∀k,i<k->k<c->ks k=[])\/ ∀t,o.dst=some t->lC ops (i+1) t=true/\tw (look (s ops.size).env t)=true)/\pT P o (bz (s c).env) (s c).rows (val i) (s c).rows:=by
          rcases q8 with⟨e8,q8⟩|⟨⟨td,d1,d2,d3⟩,L,e8,hL⟩
          . subst e8
            exact⟨.inl q8,tA.2.2.2.1 (bz (s c).env) (s c).rows ey (by rw[q6,q7])⟩
          . refine⟨.inr λt ht=>by rw[d1]at ht;cases ht;exact⟨d2,Rn d3⟩,tA.2.2.2.2 (bz (s c).env) (s c).rows row L ?_ (λkk hk=> ?_) ey q6 (by rw[q7,e8])⟩
            rotate_left
            . obtain⟨j,j1,j2,rfl⟩:=hL kk hk
              have h5:=EE hc d2 (Rn d3) (aO _) (show i+1<=ops.size by omega)
              have h6:=hc.env i o td ho
              rw[if_pos d1,h5]at h6
              have g1:=EE hc d2 (Rn d3) (show i+1<=j by omega) (show j<=ops.size by omega)
              have g2:=EE hc d2 (Rn d3) (show i+1<=j+1 by omega) (show j+1<=ops.size by omega)
              have dz:ops[j]? =some ops[j]:=aJ (by omega)
              rw[hc.env j _ td dz,if_neg (Kk d2 (by omega) dz),Ca,g1,Zok d3]at g2
              rw[<-h6];exact g2
            have h5:=EE hc d2 (Rn d3) (aO _) (show i+1<=ops.size by omega)
            have h6:=hc.env i o td ho
            rw[if_pos d1]at h6
            rw[<-h6,h5];exact d3
        refine⟨q2,q9.1,q9.2,λx hx=> ?_⟩
        have jG:x= .tmp b:=by simpa [q3,Op.operands] using hx
        rw[jG]
        refine oJ b q4 ?_
        unfold Oper.looksAt
        exact gQ _ (List.mem_filterMap.2 ⟨.tmp b,by rw[q3];simp [Op.operands],rfl⟩)
      . rw [ho]at q1;cases q1
        have tA:=(hc.mM i o ho).pu q q2 (Zno hc q3 q4 (aO _) (by omega))
        refine⟨q2,q8.imp id λg t ht=>⟨(g.2 t ht).1,Qml (g.2 t ht).2⟩,tA.2.2 (bz (s c).env) (s c).rows (λx hx=> ?_),λy hy=> ?_⟩
        . cases x with
          | tmp b=>
            rcases q8 with q8|q8
            . exact Rx b (q4 b (Z2e q3 hx)) q8 tA.1
            . obtain⟨g1,g2⟩:=q8.1 b (Z2e q3 hx)
              show look (s c).env b=look (s i).env b
              rw[EE hc g1 (Qml g2) (by omega) (by omega),EE hc g1 (Qml g2) (aO _) (by omega)]
          |_=>rfl
        . cases y with
          | tmp b=>
            refine oJ b (q4 b (Z2e q3 hy)) ?_
            unfold Oper.looksAt
            exact gQ _ (List.mem_filterMap.2 ⟨.tmp b,by simpa using hy,rfl⟩)
          | const v=>
            simp only[bz,Act.eval]
            cases hv:Gt v with
            |none=>trivial
            |some d=>exact Nq hv cx w
          |global g=>trivial
          |func f=>exact KJ f
    have pq:mO cx (s c).rows:=λr' Fj jA g1 g2=>by
      have hr:r'<(s c).rows.length:=by
        by_cases h:r'<(s c).rows.length
        . exact h
        . simp only[aK,aM (show(s c).rows.length<=r' by omega)]at g2;cases g2
      rw[hR,Zhc hc hI.quiet Iw hr (by omega),g2]at g1
      exact(Option.some.inj g1).symm
    have fin: ∀v w' c',KG cx w (s c).rows (s c).rows c' w'->Rep c' w' (val i) v->K (a.put o.dst v) w':=by
      intro v w' c' hn hv
      refine hK _ w' c d ⟨WD,Iw,λk hk=> ?_,hI.quiet,hI.wr,tZ,?_,?_,hI.gj,hI.gw,c',B,hn.mem,λr'=> ?_,λt ht he=> ?_,oh.step (ks:=[]) (λk hk=>by simp [cb]at hk) hI.gw hn.toW.toK,λk hk oP=>(nW k hk (by rw[<-h2 k (by omega)];exact oP)).bf hn.toW.toK (by omega) ho,λk j hk hj oP AY e=>oL k j hk hj (by rw[<-h2 k (by omega)];exact oP) (by rw[<-h2 j (by omega)];exact AY) e⟩
      . by_cases e':k=i
        . rw[e'];exact .inl h1
        . rw[h2 k e'];exact hI.pre k hk
      . cases hd:o.dst<;>simp [Act.put]<;>exact hI.size
      . first|exact mi.put (hI.defers.step hm hn.fr)|exact mi.put (hI.defers.step hm hn.toW.fr)
      . rw[hn.rows,hR,if_neg (by omega),SJ (λk hk=>h2 _ (by omega))]
      . rw [SI (λk hk=>h2 _ (by omega))]
        refine VA hI.size (λu=>hc.dst i o u ho) (λhd=> ?_) (λhd=> ?_)
        ·
          have oW: ∀k o',i<k->ops[k]? =some o'->o'.dst=some t->dq k=false:=λk o' hk dz tv=>by
            cases hl:dq k with
            |false=>rfl
            | true=>
              rcases(Gk mN hk ho dz).1 with ua|hb
              . exact((Gs ua).1 hd tv).elim
              . have:=og _ _ hl hb
                rw[h0]at this;cases this
          have Jaj: ∀k o',i<k->k<c->ops[k]? =some o'->o'.dst≠some t:=λk o' oj rR dz tv=>
            ht k o' rR (by rw[h2 k (by omega)];exact oW k o' oj dz tv) dz tv
          rw[Qwn hc (λk o' hk dz tv=>oW _ o' (by omega) dz tv)]
          have: ∀k,i<k->k<=c->look (s k).env t=val i:=by
            rcases q8 with q8|q8
            rotate_left
            . intro k oj rR
              obtain⟨g1,g2⟩:=q8 t hd
              have:=hc.env i o t ho
              rw[if_pos hd]at this
              rw[<-this,EE hc g1 g2 (by omega) (by omega),EE hc g1 g2 (aO _) (by omega)]
            intro k
            induction k with
            |zero=>intro h;omega
            | succ k ih=>
              intro oj rR
              have dz:ops[k]? =some ops[k]:=aJ (by omega)
              by_cases e':k=i
              . subst e'
                rw[ho]at dz
                rw[hc.env k o t ho,if_pos hd]
              . rw[hc.env k _ t dz,if_neg (Jaj k _ (by omega) (by omega) dz),q8 k (by omega) (by omega),pn]
                exact ih (by omega) (by omega)
          rw[this c hic (aO _)]
          exact hv
        . refine Ap hn.cf (hE t (λk o' hk hl dz tv=> ?_) (λk o' hk hl dz=>he k o' hk (by rw[h2 k (by omega)];exact hl) dz))
          by_cases e':k=i
          . subst e'
            rw[ho]at dz;cases dz
            exact hd tv
          . exact ht k o' hk (by rw[h2 k e'];exact hl) dz tv
    unfold wpOp
    simp only[ho]
    have hw:Region.wanted o (yielded ops a.tmps)=true:=by simp [Region.wanted,q2]
    rw[if_pos hw]
    exact hN.2 cx w a hm jm pq (λr' g1 g2=>by omega) Du K Q fin
theorem Zf0{c0:Ctx}{w0:World}{dq:Nat->Bool}{a:Act}{w:World}{c d:Nat}(hI:Inv2 P G N M ops s ks val c0 w0 dq a w c d)(iS:∀i,i<ops.size->dq i=true):∃cx,fx N M c0 w0 cx w (s ops.size) a:=by
 obtain⟨cx,B,hm,hR,hE,oh,nW,oL⟩:=hI.ctx
 have hd:d=ops.size:=by
  by_cases h:d<ops.size
  ·obtain⟨o',t,_,_,g1,_,g3,_⟩:=nW d (aO _) (iS d h)
   have:=hI.wr _ g1
   unfold lH at this
   rw[g3]at this;cases this
  ·have:=hI.dn;omega
 subst hd
 have WD:=hI.cd
 have hl:∀k,k<ops.size-c->dq (c+k)=true:=λk hk=>iS _ (by omega)
 refine⟨cx,hm,λr=>?_,λt=>?_,hI.size,hI.defers,hI.gj,hI.gw,oh⟩
 ·rw[hR,SF hc.toChain hI.quiet hI.dn (by omega) hl,show c+(ops.size-c)=ops.size by omega]
 ·have:=hE t (λk o hk h0 dz=>by rw[iS k (Array.getElem?_eq_some_iff.1 dz).1]at h0;cases h0) (λk o hk _ dz=>by have:=(Array.getElem?_eq_some_iff.1 dz).1;omega)
  rw[SE hc.toChain hI.quiet hI.dn (by omega) hl]at this
  rwa [show c+(ops.size-c)=ops.size by omega]at this
theorem zy{c0:Ctx}{w0:World}{Q:Exit->Act->World->Prop}(hQ:∀c w a,fx N M c0 w0 c w (s ops.size) a->Q .normal a w):∀(fuel:Nat) (listed:Array Bool) (a:Act) (w:World) (c d:Nat),listed.size=ops.size->mZ (λi=>listed.getD i false) ops.size<=fuel->
 Inv2 P G N M ops s ks val c0 w0 (λi=>listed.getD i false) a w c d->Iy P .any ops Q fuel listed a w:=by
 intro fuel
 have Br:∀(listed:Array Bool) (i:Nat),listed.size=ops.size->(i∈Region.ready .any ops listed↔ ∃o,ops[i]?=some o/\listed.getD i false=false/\∀e∈o.after,Region.binds .any e=true->listed.getD e.on false=true):=by
  intro listed i ga
  unfold Region.ready
  rw[gY,gZ]
  constructor
  ·rintro⟨h1,h2⟩
   have ho:ops[i]?=some ops[i]:=aJ h1
   simp only[ho,aR,aG,aE,aS]at h2
   refine⟨_,ho,?_,λe he hb=>?_⟩
   ·have hl:i<listed.size:=by omega
    have:=h2.1
    simpa[aP,hl]using this
   ·have:=Array.all_eq_true'.1 h2.2 e he
    simpa[hb]using this
  ·rintro⟨o,ho,h1,h2⟩
   have cj:=(Array.getElem?_eq_some_iff.1 ho).1
   refine⟨cj,?_⟩
   simp only[ho,aR,aG,aE,aS]
   have hl:i<listed.size:=by omega
   refine⟨by simpa[aP,hl]using h1,Array.all_eq_true'.2 λe he=>?_⟩
   cases hb:Region.binds .any e with
   |false=>rfl
   |true=>simpa[hb]using h2 e he hb
 have ko:∀(listed:Array Bool),listed.size=ops.size->Region.ready .any ops listed=[]->∀i,i<ops.size->listed.getD i false=true:=by
  intro listed ga he i
  induction i using Nat.strongRecOn with
  |_ i ih=>
   intro hi
   cases hl:listed.getD i false with
   |true=>rfl
   |false=>
    exfalso
    have ho:ops[i]?=some ops[i]:=aJ hi
    have:i∈Region.ready .any ops listed:=(Br listed i ga).2 ⟨_,ho,hl,λe An hb=>by
     have:=Zg2 mN ho e An hb
     exact ih e.on this (by omega)⟩
    rw[he]at this;cases this
 induction fuel with
 |zero=>
  intro listed a w c d ga BR hI
  have iS:=WB (dq:=λi=>listed.getD i false) (Nat.le_zero.1 BR)
  refine⟨?_,?_⟩
  ·rw[List.eq_nil_iff_forall_not_mem]
   intro i hi
   obtain⟨o,ho,h1,_⟩:=(Br listed i ga).1 hi
   have:=iS i (Array.getElem?_eq_some_iff.1 ho).1
   rw[h1]at this;cases this
  ·obtain⟨cx,hs⟩:=Zf0 hc mN hI iS
   exact hQ cx w a hs
 |succ fuel ih=>
  intro listed a w c d ga BR hI
  refine⟨λhe=>?_,λi hi=>?_⟩
  ·obtain⟨cx,hs⟩:=Zf0 hc mN hI (ko listed ga he)
   exact hQ cx w a hs
  ·obtain⟨o,ho,h1,h2⟩:=(Br listed i ga).1 hi
   have cj:=(Array.getElem?_eq_some_iff.1 ho).1
   have sA:(listed.setIfInBounds i true).getD i false=true:=by
    have hl:i<listed.size:=by omega
    simp[aP,hl]
   have sB:∀k,k≠i->(listed.setIfInBounds i true).getD k false=listed.getD k false:=λk hk=>by
    rw[aF,aQ (Ne.symm hk),<-aF]
   refine xy hc mN (gl:=λk=>(listed.setIfInBounds i true).getD k false) hI ho h1 sA sB h2 λa' w' c' d' WE=>?_
   refine ih _ a' w' c' d' (by simpa using ga) ?_ WE
   have:=WC (dq:=λk=>listed.getD k false) (gl:=λk=>(listed.setIfInBounds i true).getD k false) h1 sA sB cj
   omega
end
theorem Br{ops:Array Oper}{listed:Array Bool}{i:Nat}(ga:listed.size=ops.size):i∈Region.ready .any ops listed↔ ∃o,ops[i]?=some o/\listed.getD i false=false/\∀e∈o.after,Region.binds .any e=true->listed.getD e.on false=true:=by
 unfold Region.ready
 rw[gY,gZ]
 constructor
 ·rintro⟨h1,h2⟩
  have ho:ops[i]?=some ops[i]:=aJ h1
  simp only[ho,aR,aG,aE,aS]at h2
  refine⟨_,ho,?_,λe he hb=>?_⟩
  ·have hl:i<listed.size:=by omega
   have:=h2.1
   simpa[aP,hl]using this
  ·have:=Array.all_eq_true'.1 h2.2 e he
   simpa[hb]using this
 ·rintro⟨o,ho,h1,h2⟩
  have cj:=(Array.getElem?_eq_some_iff.1 ho).1
  refine⟨cj,?_⟩
  simp only[ho,aR,aG,aE,aS]
  have hl:i<listed.size:=by omega
  refine⟨by simpa[aP,hl]using h1,Array.all_eq_true'.2 λe he=>?_⟩
  cases hb:Region.binds .any e with
  |false=>rfl
  |true=>simpa[hb]using h2 e he hb
theorem yy{r:Nat}:∀{l:List Nat} {k:Nat},r∉l->pos r l k=k+l.length
 |[],k,_=>rfl
 |x::l,k,h=>by
  simp only[List.mem_cons,not_or]at h
  simp only[pos]
  cases hb:Nat.beq x r with
  |true=>exact(h.1 (bE hb).symm).elim
  |false=>show pos r l (k+1)=_;rw[yy h.2];simp;omega
section
variable {p:List Nat} {ops:Array Oper} (hp:VB p ops.size=true)
include hp
theorem VC:p.length=ops.size/\(∀i,i<ops.size->i∈p)/\(∀i∈p,i<ops.size)/\p.Nodup:=by
 unfold VB at hp
 simp only[aE]at hp
 obtain⟨h1,h2,h3,h4⟩:=hp
 exact⟨bE h1,λi hi=>oz.1 (List.all_eq_true.1 h2 i (List.mem_range.2 hi)),λi hi=>lE (List.all_eq_true.1 h3 i hi),ME.1 h4⟩
theorem Ia{i:Nat}(hi:i<ops.size):pos i p 0<ops.size/\p[pos i p 0]?=some i:=by
 obtain⟨h1,h2,h3,h4⟩:=VC hp
 have:=BB (h2 i hi)
 exact⟨by have:=(List.getElem?_eq_some_iff.1 this).1;omega,this⟩
theorem Zho{i:Nat}(h:pos i p 0<ops.size):i<ops.size:=by
 obtain⟨h1,h2,h3,h4⟩:=VC hp
 by_cases hm:i∈p
 ·exact h3 i hm
 ·rw[yy hm]at h;omega
theorem Qo9:(nD p ops).size=ops.size:=by
 obtain⟨h1,_⟩:=VC hp
 simp[nD,h1]
theorem VD{k i:Nat}{o:Oper}(hk:p[k]?=some i)(ho:ops[i]?=some o):(nD p ops)[k]?=some (MY p o):=by
 have:ops.getD i default=o:=by
  have cj:=(Array.getElem?_eq_some_iff.1 ho).1
  have:=(Array.getElem?_eq_some_iff.1 ho).2
  simp[aP,cj,this]
 simp[nD,hk,ho]
theorem Zes(tmps:Array Value)(j:Nat):yielded (nD p ops) tmps (pos j p 0)=yielded ops tmps j:=by
 by_cases hj:j<ops.size
 ·have ho:ops[j]?=some ops[j]:=aJ hj
  have h1:=VD hp (Ia hp hj).2 ho
  simp only[yielded,h1,ho,aL]
  rfl
 ·have h1:ops[j]?=none:=cL (by omega)
  have h2:(nD p ops)[pos j p 0]?=none:=by
   refine cL ?_
   rw[Qo9 hp]
   by_cases h:pos j p 0<ops.size
   ·exact(hj (Zho hp h)).elim
   ·omega
  simp only[yielded,h1,h2,Option.bind_none]
theorem Zjy{o:Oper}(tmps:Array Value):Region.wanted (MY p o) (yielded (nD p ops) tmps)=Region.wanted o (yielded ops tmps):=by
 unfold Region.wanted MY
 cases hg:o.guard with
 |none=>rfl
 |some jw=>obtain⟨j,w⟩:=jw;simp only[Zes hp]
theorem qz{P:Program}{Q:Exit->Act->World->Prop}{i:Nat}{K K':Act->World->Prop}{a:Act}{w:World}(hi:i<ops.size)(hK:∀a w,K' a w->K a w)(h:wpOp P (nD p ops) Q (pos i p 0) K' a w):wpOp P ops Q i K a w:=by
 have ho:ops[i]?=some ops[i]:=aJ hi
 have h1:=VD hp (Ia hp hi).2 ho
 unfold wpOp at h⊢
 simp only[ho]
 simp only[h1,Zjy hp]at h
 split at h
 ·rename_i hw
  rw[if_pos hw]
  exact Zc (Q:=Q) hK h
 ·rename_i hw
  rw[if_neg hw]
  exact hK _ _ h
theorem Zpj{P:Program}{Q:Exit->Act->World->Prop}:∀(fuel:Nat) (listed fm:Array Bool) (a:Act) (w:World),listed.size=ops.size->fm.size=ops.size->(∀i,i<ops.size->fm.getD (pos i p 0) false=listed.getD i false)->
 Iy P .any (nD p ops) Q fuel fm a w->Iy P .any ops Q fuel listed a w:=by
 have ga:=Qo9 hp
 obtain⟨f1,f2,f3,f4⟩:=VC hp
 have up:∀(listed fm:Array Bool) (i:Nat),listed.size=ops.size->fm.size=ops.size->(∀i,i<ops.size->fm.getD (pos i p 0) false=listed.getD i false)->i∈Region.ready .any ops listed->i<ops.size/\pos i p 0∈Region.ready .any (nD p ops) fm:=by
  intro listed fm i h1 h2 h3 hi
  obtain⟨o,ho,g1,g2⟩:=(Br h1).1 hi
  have cj:=(Array.getElem?_eq_some_iff.1 ho).1
  refine⟨cj,(Br (by rw[h2,ga])).2 ⟨_,VD hp (Ia hp cj).2 ho,by rw[h3 i cj];exact g1,λe he hb=>?_⟩⟩
  simp only[MY,hH]at he
  obtain⟨e',An,rfl⟩:=he
  have:=g2 e' An hb
  have KN:e'.on<ops.size:=by
   by_cases h:e'.on<ops.size
   ·exact h
   ·rw[aP,dif_neg (by omega)]at this;cases this
  show fm.getD (pos e'.on p 0) false=true
  rw[h3 _ KN];exact this
 have down:∀(listed fm:Array Bool) (k:Nat),listed.size=ops.size->fm.size=ops.size->(∀i,i<ops.size->fm.getD (pos i p 0) false=listed.getD i false)->k∈Region.ready .any (nD p ops) fm->∃i,i∈Region.ready .any ops listed:=by
  intro listed fm k h1 h2 h3 hk
  obtain⟨o',jg,g1,g2⟩:=(Br (by rw[h2,ga])).1 hk
  have cj:=(Array.getElem?_eq_some_iff.1 jg).1
  rw[ga]at cj
  have BC:p[k]?=some p[k]:=List.getElem?_eq_getElem (by omega)
  have hi:=f3 _ (fX BC)
  have ho:ops[p[k]]?=some ops[p[k]]:=aJ hi
  have Ry:pos p[k] p 0=k:=by
   have:=(Ia hp hi).2
   exact(List.getElem?_inj (by have:=(Ia hp hi).1;omega) f4).1 (this.trans BC.symm)
  have h4:=VD hp BC ho
  rw[jg]at h4;cases h4
  refine⟨p[k],(Br h1).2 ⟨_,ho,by rw[<-h3 _ hi,Ry];exact g1,λe he hb=>?_⟩⟩
  have:=g2 (DB p e) (by simp only[MY,hH];exact⟨e,he,rfl⟩) hb
  have this:fm.getD (pos e.on p 0) false=true:=this
  have KN:pos e.on p 0<ops.size:=by
   by_cases h:pos e.on p 0<ops.size
   ·exact h
   ·rw[aP,dif_neg (by omega)]at this;cases this
  rw[<-h3 _ (Zho hp KN)];exact this
 intro fuel
 induction fuel with
 |zero=>
  intro listed fm a w h1 h2 h3 h
  refine⟨?_,h.2⟩
  cases hr:Region.ready .any ops listed with
  |nil=>rfl
  |cons i l=>
   have:=(up listed fm i h1 h2 h3 (by rw[hr];simp)).2
   rw[h.1]at this;cases this
 |succ fuel ih=>
  intro listed fm a w h1 h2 h3 h
  refine⟨λhe=>h.1 ?_,λi hi=>?_⟩
  ·cases hr:Region.ready .any (nD p ops) fm with
   |nil=>rfl
   |cons k l=>
    obtain⟨i,hi⟩:=down listed fm k h1 h2 h3 (by rw[hr];simp)
    rw[he]at hi;cases hi
  ·obtain⟨cj,iJ⟩:=up listed fm i h1 h2 h3 hi
   refine qz hp cj (λa' w' hk=>ih _ _ a' w' (by simpa using h1) (by simpa using h2) (λk hk=>?_) hk) (h.2 _ iJ)
   have hpi:=(Ia hp cj)
   have BC:=(Ia hp hk)
   have gs:∀(A:Array Bool) (x y:Nat),x<A.size->(A.setIfInBounds x true).getD y false=if x=y then true else A.getD y false:=λA x y hx=>by
    simp only[aF,Array.getElem?_setIfInBounds]
    split
    ·rename_i e;subst e;simp[hx]
    ·rfl
   rw[gs _ _ _ (by omega),gs _ _ _ (by omega)]
   by_cases e:i=k
   ·subst e;simp
   ·have gr:pos i p 0≠pos k p 0:=λe'=>by
     have:=BC.2
     rw[<-e',hpi.2]at this
     exact e (Option.some.inj this)
    rw[if_neg e,if_neg gr];exact h3 k hk
end
theorem Zk8{ro:Option Nat}{P:Program}(hm:P.follows .mixedOrders=true){T:fq}{G:List bc}{N M id:Nat}{ops:Array Oper}{st:St}{Q:Ex->St->Prop}(hT:jB P T)(hG:jZ P G){p:List Nat}(hp:VB p ops.size=true)(h:Qc T G N M (nD p ops) (nD p ops).toList st λst=>cr (Rq G (nD p ops) st.env) (Q .normal st)):ub ro P N M (.region id ops true) st Q:=by
 intro c0 w0 c w a hs
 have hs:=hs.drew
 refine Qum hm ?_
 refine Zpj hp ops.size _ (gN ops.size false) a _ (by simp) (by simp) (λi hi=>by simp[aP,(Ia hp hi).1,hi]) ?_
 obtain⟨s,ks,val,h1,h2,h3,h4,h5,h6⟩:=Zgy hT hG (nD p ops).toList 0 st (by simp) h
 have hc:Vz P G N M (nD p ops) s ks val:=⟨⟨λi o ho=>h3 i o (aT _) ho,λi o t ho=>h4 i o t (aT _) ho,λi o t ho=>h5 i o t (aT _) ho⟩,λi o ho=>h6 i o (aT _) ho⟩
 have ga:s (0+(nD p ops).toList.length)=s (nD p ops).size:=by simp
 rw[ga]at h2
 obtain⟨hd,h2⟩:=db.1 h2
 have mo:=Qo9 hp
 obtain⟨d,g1,g2,g3,g4⟩:=Nl G (nD p ops) _ 0 rfl (aT _)
 have hz:∀i,(gN (nD p ops).size false).getD i false=false:=λi=>by
  by_cases h:i<(nD p ops).size
  ·simp[aP,h]
  ·simp[aP,h]
 rw[<-mo]
 refine zy hc hd (Q:=λe a' w'=>∃ex jx c',na e=some ex/\Q ex jx/\fx N M c0 w0 c' w' jx a') (λc w a jl=>⟨_,_,c,rfl,h2,jl⟩) (nD p ops).size _ a _ 0 d (by simp) (WA _ _)
  ⟨g1,g2,λi hi=>by omega,g3,g4,λj hj=>by simp[hz]at hj,hs.size,hs.defers,hs.gj,hs.gw,c,λ_=>0,hs.mem,λr=>?_,λt _ _=>?_,hs.reach,λi _ hl=>by simp[hz]at hl,λi j _ _ hl=>by simp[hz]at hl⟩
 ·rw[SH (λi _=>hz _),h1];exact hs.rows r
 ·rw[SG (λi _=>hz _),h1];exact hs.env t
theorem xz{P:Program}(hm:P.follows .mixedOrders=true):sj P:=by
 intro ro T G N M id ops st Q hT hG h
 unfold uY at h
 split at h
 ·rename_i hd
  exact za hm ro T G N M id ops st Q hT hG hd h
 ·obtain⟨h1,h2⟩:=db.1 h
  exact Zk8 hm hT hG h1 h2
