import Derived.Test.YtaemmjbkndlkeaaGreatMigrateOneDraw
open List renaming mem_cons_self->eU,getD->aV,getElem?_eq_none->aJ,mem_of_getElem?->fL,mem_append_left->eS,mem_append_right->eX,mem_filter->gM,mem_range->gN
open Array renaming mem_toList_iff->gL,toArray_toList->bW,getElem?_eq_getElem->aU,getElem?_setIfInBounds_ne->aZ,getD->aY,getD_eq_getD_getElem?->aQ,getElem?_eq_none->gO,mem_map->gP,replicate->gE
open Option renaming bind_some->aW,map_some->bA,getD_some->aR
open Bool renaming or_eq_true->aT,false_eq_true->aA,not_eq_true'->bB
open Nat renaming lt_of_lt_of_le->bM,le_refl->aX,add_zero->aB,zero_le->bC
set_option linter.all false
namespace Go.GD
open Go
set_option linter.unusedSectionVars false
theorem Zbq{pl:Bool}{ty:pO}{d:D}{K:D->Prop}(h:uq pl ty d K):∃d',K d'/\∀K2:D->Prop,K2 d'->uq pl ty d K2:=by
 cases ty<;>simp only[uq]at h⊢
 ·exact⟨_,(de.1 h).2,λK2 h2=>de.2 ⟨(de.1 h).1,h2⟩⟩
 ·exact⟨_,(de.1 h).2,λK2 h2=>de.2 ⟨(de.1 h).1,h2⟩⟩
 ·exact⟨_,(de.1 h).2,λK2 h2=>de.2 ⟨(de.1 h).1,h2⟩⟩
 ·cases pl
  ·simp only[D.c7]at h⊢
   exact⟨_,(de.1 h).2,λK2 h2=>de.2 ⟨(de.1 h).1,h2⟩⟩
  ·exact⟨_,(de.1 h).2,λK2 h2=>de.2 ⟨(de.1 h).1,h2⟩⟩
 ·cases pl
  ·simp only[D.c7]at h⊢
   exact⟨_,(de.1 h).2,λK2 h2=>de.2 ⟨(de.1 h).1,h2⟩⟩
  ·cases d<;>first|exact h.elim|exact⟨_,h,λK2 h2=>h2⟩
theorem Y4{pl:Bool}{e:List D}:∀{dk:List pO} {off:Nat} {K:List D->Prop},IX pl e dk off K->∃ds,K ds/\∀K2:List D->Prop,K2 ds->IX pl e dk off K2
 |[],off,K,h=>⟨[],h,λK2 h2=>h2⟩
 |t::ts,off,K,h=>by
  simp only[IX]at h⊢
  obtain⟨d,hd,h1⟩:=Zbq h
  obtain⟨ds,DI,h2⟩:=Y4 hd
  exact⟨_,DI,λK2 hk=>h1 _ (h2 _ hk)⟩
theorem Uy{pl:Bool}{ti:TI}{e:List D}{off:Nat}{K:D->Prop}(h:ur pl ti e off K):∃d,K d/\∀K2:D->Prop,K2 d->ur pl ti e off K2:=by
 unfold ur at h
 cases hg:ti.kind.isAgg with
 |true=>
  simp only[hg]at h
  obtain⟨ds,h1,h2⟩:=Y4 h
  exact⟨_,h1,λK2 hk=>by unfold ur;simp only[hg];exact h2 _ hk⟩
 |false=>
  simp only[hg]at h
  split at h
  ·rename_i y hy
   obtain⟨d,h1,h2⟩:=Zbq h
   exact⟨_,h1,λK2 hk=>by unfold ur;simp only[hg,hy];exact h2 _ hk⟩
  ·exact h.elim
theorem Zjz{T:e7}{t:TypeId}{r i off:Nat}{R:Rows}{K:D->Rows->Prop}(h:wq T t (.ptr r i off) R K):
 ∃d,K d R/\(∃row,R.getD r none=some row)/\∀R2:Rows,R2.getD r none=R.getD r none->wq T t (.ptr r i off) R2 λd' R'=>d'=d/\R'=R2:=by
 unfold wq at h
 cases hT:T.get t with
 |none=>simp only[hT]at h
 |some ti=>
  simp only[hT]at h
  cases hr:R.getD r none with
  |none=>simp only[hr]at h
  |some row=>
   obtain⟨box,ty,sz,es⟩:=row
   simp only[hr,de]at h
   obtain⟨h0,h⟩:=h
   obtain⟨d,h1,h2⟩:=Uy h
   refine⟨d,h1,?_,λR2 uk=>?_⟩
   ·exact⟨_,rfl⟩
   ·unfold wq
    simp only[hT,uk,de]
    exact⟨h0,h2 _ (by simp)⟩
theorem Zqi{d:D}(h:pf d=true)(ks:List Nat):d.gl ks=d.ee ks:=by cases d<;>first|rfl|cases h
theorem Zqc{pl:Bool}{ty:pO}{d d':D}{ks:List Nat}(h:uq pl ty d λx=>x=d')(hd:d'.ee ks=d'):d.ee ks=d:=by
 cases ty<;>simp only[uq]at h
 ·cases d<;>first|rfl|(simp[D.isInt,de]at h;done)
 ·cases d<;>first|rfl|(simp[D.isBool,de]at h;done)
 ·cases d<;>first|rfl|(simp[D.isStr,de]at h;done)
 ·cases pl
  ·simp only[D.c7,de]at h
   rw[h.2];exact hd
  ·simp only[de]at h
   cases d<;>first|rfl|(simp[D.EO,de]at h;done)
 ·cases pl
  ·simp only[D.c7,de]at h
   rw[h.2];exact hd
  ·cases d<;>first|exact h.elim|rfl
theorem Zc4{ks:List Nat}:∀{l:List D} {j:Nat},(D.kf ks l).getD j .dead=(l.getD j .dead).ee ks
 |[],_=>rfl
 |_::_,0=>rfl
 |_::l,j+1=>Zc4 (l:=l) (j:=j)
theorem Zm1(ks:List Nat)(row:Row)(i off:Nat):((row.kill ks).es.get i).getD off .dead=(row.es.get i).getD off .dead\/((row.kill ks).es.get i).getD off .dead=((row.es.get i).getD off .dead).ee ks:=by
 unfold Row.kill
 split
 ·rename_i ty sz e
  cases i with
  |zero=>exact .inr Zc4
  |succ i=>exact .inl rfl
 ·exact .inl rfl
theorem Zlx{pl:Bool}{ti:TI}{row:Row}{i off:Nat}{v:D}{ks:List Nat}(h:ur pl ti (row.es.get i) off λx=>x=v)(hv:pf v=true)(hk:v.ee ks=v):ur pl ti ((row.kill ks).es.get i) off λx=>x=v:=by
 unfold ur at h⊢
 cases hg:ti.kind.isAgg with
 |true=>
  simp only[hg]at h
  obtain⟨ds,h1,_⟩:=Y4 h
  rw[<-h1]at hv;cases hv
 |false=>
  simp only[hg]at h⊢
  split at h
  ·rename_i y hy
   have e:((row.kill ks).es.get i).getD off .dead=(row.es.get i).getD off .dead:=by
    rcases Zm1 ks row i off with e|e
    ·exact e
    ·rw[e];exact Zqc h hk
   rw[e];exact h
  ·exact h.elim
theorem Z1k{pl:Bool}{ti:TI}{i off:Nat}{v:D}(hv:pf v=true):∀{L:List (List Nat)} {row:Row},(∀kk∈L,v.ee kk=v)->(ur pl ti (row.es.get i) off λx=>x=v)->ur pl ti ((L.foldl (λr k=>Row.kill k r) row).es.get i) off λx=>x=v
 |[],_,_,h=>h
 |k::L,row,hL,h=>Z1k hv (L:=L) (row:=row.kill k) (λkk hk=>hL kk (List.mem_cons_of_mem _ hk)) (Zlx h hv (hL k (eU ..)))
theorem Z79:∀(L:List (List Nat)) (row:Row),(L.foldl (λr k=>Row.kill k r) row).box=row.box/\(L.foldl (λr k=>Row.kill k r) row).sz=row.sz
 |[],_=>⟨rfl,rfl⟩
 |k::L,row=>by
  obtain⟨k1,k2,k3,k4⟩:=Q5 k row
  obtain⟨h1,h2⟩:=Z79 L (row.kill k)
  exact⟨h1.trans k1,h2.trans k3⟩
theorem Zqo{T:e7}{t:TypeId}{r i off:Nat}{R R2:Rows}{v:D}{row:Row}{L:List (List Nat)}(h:wq T t (.ptr r i off) R λd' R'=>d'=v/\R'=R)(hv:pf v=true)(hL:∀kk∈L,v.ee kk=v)(hr:R.getD r none=some row)(uk:R2.getD r none=some (L.foldl (λr k=>Row.kill k r) row)):
 wq T t (.ptr r i off) R2 λd' R'=>d'=v/\R'=R2:=by
 obtain⟨s1,s2⟩:=Z79 L row
 unfold wq at h⊢
 cases hT:T.get t with
 |none=>simp only[hT]at h
 |some ti=>
  simp only[hT,hr]at h
  simp only[hT,uk]
  obtain⟨box,ty,sz,es⟩:=row
  simp only at h s1 s2
  generalize cz:L.foldl (λr k=>Row.kill k r) (⟨box,ty,sz,es⟩:Row)=jq at s1 s2⊢
  obtain⟨P1,ty2,sz2,es2⟩:=jq
  simp only at s1 s2⊢
  subst s1;subst s2
  simp only[de]at h⊢
  refine⟨h.1,?_⟩
  have hx:ur (!P1) ti (es.get i) off λx=>x=v:=by
   obtain⟨d,h1,h2⟩:=Uy h.2
   exact h2 _ h1.1
  have:=Z1k (L:=L) (row:=⟨P1,ty,sz2,es⟩) hv hL hx
  rw[cz]at this
  obtain⟨d,h1,h2⟩:=Uy this
  exact h2 _ ⟨h1,by first|trivial|rfl⟩
theorem Zdu{T:e7}{t:TypeId}{r i off:Nat}{d:D}{R:Rows}{K:D->Rows->Prop}(h:GZ T t (.ptr r i off) d R K):
 ∃R',K .dead R'/\(∀r',r'≠r->R'.getD r' none=R.getD r' none)/\GZ T t (.ptr r i off) d R λd' R2=>d'=.dead/\R2=R':=by
 unfold GZ at h
 cases hT:T.get t with
 |none=>simp only[hT]at h
 |some ti=>
  simp only[hT]at h
  cases hr:R.getD r none with
  |none=>simp only[hr]at h
  |some row=>
   obtain⟨box,ty,sz,es⟩:=row
   simp only[hr,de]at h
   obtain⟨h0,h⟩:=h
   have uu:∀(x:Option Row) (r':Nat),r'≠r->(R.set r x).getD r' none=R.getD r' none:=λx r' h=>by
    simp only[aV,List.getElem?_set_ne (Ne.symm h)]
   cases box with
   |true=>
    simp only[D.e9,mV]at h
    refine⟨_,h,uu _,?_⟩
    unfold GZ
    simp only[hT,hr,de,D.e9,mV]
    exact⟨h0,by simp⟩
   |false=>
    simp only[mV]at h
    refine⟨_,h.2,uu _,?_⟩
    unfold GZ
    simp only[hT,hr,de,mV]
    exact⟨h0,h.1,by simp⟩
structure Uz(P:Program)(o:Oper)(row:Row)(arr:Array Value):Prop where
 box:row.box=true
 sz:0<row.sz
 cells:∃e,row.es=.gen [e]/\e.length=row.sz/\arr.size=row.sz/\∀(c:Ctx) (w:World),ku c w e arr 0
 run:∀(ev:Operand->Value) (w:World),(execOp ev o).run P w=.ok (.value (.pointer (some ⟨w.heap.size,0,none⟩))) (w.alloc (.cells arr row.ty))
theorem Zsf{P:Program}{T:e7}(hT:jb P T){o:Oper}{t:TypeId}(ho:o.op=.alloc t){k:TK}{sz b:Nat}{cs:List pO}{ds:List D}{e:Bool}(ht:T.get t=some ⟨k,sz,b,cs,some ds,e⟩)(h0:0<sz)(hl:ds.length=sz):∃arr,Uz P o ⟨true,t,sz,.gen [ds]⟩ arr:=by
 obtain⟨i,u,hi,hu,hz,_,_,_,hzero⟩:=GI hT ht
 have hb:∀(c:Ctx) (w:World),Uo c w ⟨true,t,sz,.gen [ds]⟩ u.cells:=λc w=>YG h0 hl (I1 hz c w)
 have fq:u.cells.size=sz:=by have:=LF hz;simp at this;omega
 refine⟨u.cells,⟨rfl,h0,⟨ds,rfl,hl,fq,λc w=>?_⟩,λev w=>?_⟩⟩
 ·have:=(hb c w).2
  simp only[if_true]at this
  obtain⟨e',h1,_,_,h4⟩:=this
  cases h1;exact h4
 ·simp only[execOp,ho,Instr.alloc,Sem.run_bind,hzero,Result.andThen_ok,YH,Sem.run_pure]
structure Jh(P:Program)(G:List ba)(o:Oper)(env:List (Nat×D))(R:Rows)(ks:List Nat)(val:D)(R':Rows):Prop where
 ld:∀t a r ii off,o.guard=none->o.op=.load t (.tmp a)->look env a=.ptr r ii off->ks=[]/\R'=R/\(∃row,R.getD r none=some row)/\(∀(ev:Operand->D) (R2:Rows),ev (.tmp a)=.ptr r ii off->R2.getD r none=R.getD r none->pz P o ev R2 val R2)/\∀(ev:Operand->D) (R2:Rows) row (L:List (List Nat)),pf val=true->(∀kk∈L,val.ee kk=val)->ev (.tmp a)=.ptr r ii off->R.getD r none=some row->R2.getD r none=some (L.foldl (λr k=>Row.kill k r) row)->pz P o ev R2 val R2
 st:∀t b x r ii off,o.guard=none->o.op=.store t (.tmp b) x->look env b=.ptr r ii off->ks=[]/\∀r',r'≠r->R'.getD r' none=R.getD r' none
 pu:∀q,o.guard=none->lG env o.op=some q->ks=[]/\R'=R/\∀(ev:Operand->D) (R2:Rows),(∀x∈o.op.operands,ev x=cj env x)->pz P o ev R2 val R2
 cl:∀f args dk,o.guard=none->o.op=.call ⟨.value (.func f),args,dk⟩->(oL G f=none/\Bs G f=false)->ks=[]
 al:∀t,o.guard=none->o.op=.alloc t->ks=[]/\∃row arr,Uz P o row arr/\val=.ptr R.length 0 0/\R'=R++[some row]
 ap2:∀args dk,o.guard=none->o.op=.call ⟨.builtin .append,args,dk⟩->∀r row,R.getD r none=some row->cv r ks=false->R'.getD r none=some (row.kill ks)
 ap:∀args dk x l,o.guard=none->o.op=.call ⟨.builtin .append,args,dk⟩->args.toList=.tmp x::l->Ji (look env x)=true->ks=[]/\∀r row,R.getD r none=some row->R'.getD r none=some row
theorem Ap{a:Nat}:∀{l:List Operand},a∈mu l↔Operand.tmp a∈l
 |[]=>by simp[mu]
 |x::l=>by cases x<;>simp[mu,Ap (l:=l)]
theorem Zmh{op:Op}{q:List Nat}(h:pj op=some q){a:Nat}(ha:Operand.tmp a∈op.operands):a∈q:=by
 unfold pj at h
 split at h
 ·cases h;rw[Ap];simpa[Op.operands]using ha
 ·cases h;rw[Ap];simpa[Op.operands]using ha
 ·cases h;rw[Ap];simpa[Op.operands]using ha
 ·cases h;rw[Ap];simpa[Op.operands]using ha
 ·cases h;rw[Ap];simpa[Op.operands]using ha
 ·split at h
  ·cases h
  ·cases h;rw[Ap];simpa[Op.operands]using ha
 ·cases h
theorem Zd2{G:List ba}{op:Op}{q:List Nat}(h:pj op=some q):rO G op=false/\FN op=false/\(∀t x,op≠.load t x)/\(∀t x y,op≠.store t x y)/\∀c,op≠.call c:=by
 unfold pj at h
 split at h<;>first|exact⟨rfl,rfl,λ_ _ h=>(by cases h),λ_ _ _ h=>(by cases h),λ_ h=>(by cases h)⟩|cases h
theorem yU{T:e7}{op:Op}{q:List Nat}(hq:pj op=some q){ev:Operand->D}{R:Rows}{K:D->Rows->Prop}(h:gy T op ev R K):
 ∃val,K val R/\∀(ig:Operand->D) (R2:Rows),(∀x∈op.operands,ig x=ev x)->gy T op ig R2 λd R'=>d=val/\R'=R2:=by
 unfold pj at hq
 split at hq
 ·rename_i x
  simp only[gy,D.c7]at h⊢
  exact⟨_,h,λig R2 he=>⟨he x (by simp[Op.operands]),trivial⟩⟩
 ·rename_i x
  simp only[gy,D.c7]at h⊢
  exact⟨_,h,λig R2 he=>⟨he x (by simp[Op.operands]),trivial⟩⟩
 ·rename_i x n
  simp only[gy]at h⊢
  split at h
  ·rename_i ds DI
   simp only[de,D.c7]at h
   refine⟨_,h.2,λig R2 he=>?_⟩
   rw[he x (by simp[Op.operands]),DI]
   simp only[de,D.c7]
   exact⟨h.1,trivial,trivial⟩
  ·exact h.elim
 ·rename_i x
  simp only[gy]at h⊢
  split at h
  ·rename_i hx
   refine⟨_,h,λig R2 he=>?_⟩
   rw[he x (by simp[Op.operands]),hx]
   simp
  ·rename_i hx
   refine⟨_,h,λig R2 he=>?_⟩
   rw[he x (by simp[Op.operands]),hx]
   simp
  ·exact h.elim
 ·rename_i t x f
  simp only[gy]at h⊢
  split at h
  ·simp only[de]at h⊢
   obtain⟨h0,h⟩:=h
   split at h
   ·rename_i hx
    refine⟨_,h,λig R2 he=>⟨h0,?_⟩⟩
    rw[he x (by simp[Op.operands]),hx]
    simp
   ·rename_i hx
    refine⟨_,h,λig R2 he=>⟨h0,?_⟩⟩
    rw[he x (by simp[Op.operands]),hx]
    simp
   ·exact h.elim
  ·exact h.elim
 ·rename_i t len parts
  simp only[gy,Hd]at h⊢
  cases hl:Ue t len
  rotate_left
  ·simp only[hl]at hq;cases hq
  simp only[hl,wS]at h⊢
  obtain⟨val,h1,h2⟩:=Zlo h
  exact⟨val,h1,λig R2 he=>h2 ig R2 λp hp=>he p.2 (by simp[Op.operands];exact⟨p.1,by simpa using hp⟩)⟩
 ·cases hq
theorem yw{T:e7}{G:List ba}{N M:Nat}{o:Oper}{q:List Nat}(hq:pj o.op=some q){st:St}{K:St->Prop}(h:lz T G N M o st K):gy T o.op (cj st.env) st.rows λd R=>st.put N o.dst d R K:=by
 obtain⟨dst,op,type,pos,after,guard⟩:=o
 simp only at hq⊢
 unfold pj at hq
 split at hq<;>first|exact h|cases hq
theorem qau{T:e7}{op:BinOp}{t:TypeId}{x y:D}{K:D->Prop}(h:sA T op t x y K):∃val,K val/\∀K',K' val->sA T op t x y K':=by
 unfold sA at h⊢
 split at h
 ·split at h
  ·simp only[de]at h⊢;exact⟨_,h.2,λK' h'=>⟨h.1,h'⟩⟩
  ·simp only[de]at h⊢;exact⟨_,h.2,λK' h'=>⟨h.1,h'⟩⟩
  ·rename_i n1 n2
   simp only[de]at h⊢
   obtain⟨h1,h⟩:=h
   unfold Ul at h⊢
   split at h<;>first|exact⟨_,h,λK' h'=>⟨h1,h'⟩⟩|(simp only[de]at h⊢;exact⟨_,h.2,λK' h'=>⟨h1,h.1,h'⟩⟩)|exact h.elim
 ·split at h<;>first|exact⟨_,h,λK' h'=>h'⟩|(simp only[de]at h⊢;exact⟨_,h.2,λK' h'=>⟨h.1,h'⟩⟩)|exact h.elim
 ·split at h
  ·split at h<;>first|exact⟨_,h,λK' h'=>h'⟩|exact h.elim
  ·exact h.elim
 ·split at h
  ·simp only[de]at h⊢
   obtain⟨h1,h⟩:=h
   split at h<;>first|exact⟨_,h,λK' h'=>⟨h1,h'⟩⟩|exact h.elim
  ·exact h.elim
 ·exact h.elim
theorem vU{T:e7}{s d:TypeId}{x:D}{K:D->Prop}(h:LU T s d x K):∃val,K val/\∀K',K' val->LU T s d x K':=by
 unfold LU at h⊢
 split at h
 ·split at h
  ·exact⟨_,h,λK' h'=>h'⟩
  ·exact h.elim
 ·split at h
  ·exact⟨_,h,λK' h'=>h'⟩
  ·exact h.elim
 ·exact h.elim
theorem Y5{place:Nat->Option (Nat×Nat)}{ev:Operand->D}:∀{parts:List (Nat×Operand)} {cs:List D} {K:List D->Prop},EV place ev parts cs K->∃l,K l/\∀(ig:Operand->D) (K':List D->Prop),(∀p∈parts,ig p.2=ev p.2)->K' l->EV place ig parts cs K'
 |[],cs,K,h=>by
  simp only[EV,D.e9]at h⊢
  exact⟨_,h,λig K' _ h'=>h'⟩
 |(i,x)::ps,cs,K,h=>by
  simp only[EV]at h⊢
  split at h
  ·rename_i off n hp
   simp only[de]at h
   obtain⟨h1,h⟩:=h
   obtain⟨l,g1,g2⟩:=Y5 h
   refine⟨l,g1,λig K' he h'=>?_⟩
   have hx:=he (i,x) (by simp)
   simp only at hx
   simp only[hx,de]
   exact⟨h1,g2 ig K' (λp hpp=>he p (by simp[hpp])) h'⟩
  ·exact h.elim
theorem vw{T:e7}{t:TypeId}{parts:List (Nat×Operand)}{ev:Operand->D}{R:Rows}{K:D->Rows->Prop}(h:LW T t parts ev R K):∃val,K val R/\∀(ig:Operand->D) (R2:Rows),(∀p∈parts,ig p.2=ev p.2)->LW T t parts ig R2 λd R'=>d=val/\R'=R2:=by
 unfold LW at h⊢
 split at h
 ·simp only[de]at h⊢
  obtain⟨h1,h⟩:=h
  obtain⟨l,g1,g2⟩:=Y5 h
  exact⟨_,g1,λig R2 he=>⟨h1,g2 ig _ he (by simp)⟩⟩
 ·simp only[de]at h⊢
  obtain⟨h1,h⟩:=h
  obtain⟨l,g1,g2⟩:=Y5 h
  exact⟨_,g1,λig R2 he=>⟨h1,g2 ig _ he (by simp)⟩⟩
 ·exact h.elim
theorem Y6{T:e7}{t:TypeId}{str:List UInt8}{lo hi:Option Operand}{ev:Operand->D}{R:Rows}{K:D->Rows->Prop}(h:LV T t (.str str) lo hi ev R K):∃val,K val R/\∀(ig:Operand->D) (R2:Rows),(∀y,lo=some y->ig y=ev y)->(∀y,hi=some y->ig y=ev y)->LV T t (.str str) lo hi ig R2 λd R'=>d=val/\R'=R2:=by
 have P2:∀(x:Option Operand) (n:Int) (ig:Operand->D),(∀y,x=some y->ig y=ev y)->rG x ig n=rG x ev n:=λx n ig he=>by
  unfold rG
  cases x with
  |none=>rfl
  |some y=>simp only[he y rfl]
 unfold LV at h⊢
 split at h
 ·rename_i x1 x2 x3 x4 x5 ht
  simp only at h
  split at h
  ·rename_i l hh e1 e2
   simp only[de]at h
   refine⟨_,h.2,λig R2 he1 he2=>?_⟩
   simp only[P2 _ _ ig he1,P2 _ _ ig he2,e1,e2,de]
   exact⟨h.1,trivial,trivial⟩
  ·exact h.elim
 ·simp only at h
 ·exact h.elim
 ·exact h.elim
theorem qx{T:e7}{env:List (Nat×D)}{op:Op}{q:List Nat}(hq:lG env op=some q){R:Rows}{K:D->Rows->Prop}(h:gy T op (cj env) R K):
    ∃val,K val R/\ ∀(ig:Operand->D) (R2:Rows),(∀x∈op.operands,ig x=cj env x)->gy T op ig R2 λd R'=>d=val/\R'=R2:=by
  unfold lG at hq
  split at hq
  . rename_i q' hp;exact yU hp h
  . split at hq
    . rename_i t parts hn
      simp only[gy]at h⊢
      obtain⟨val,g1,g2⟩:=vw h
      exact⟨val,g1,λig R2 he=>g2 ig R2 λp hp=>he p.2 (by simp [Op.operands];exact⟨p.1,by simpa using hp⟩)⟩
    . rename_i op' t x y ty hn
      simp only[gy]at h⊢
      obtain⟨val,g1,g2⟩:=qau h
      refine⟨val,g1,λig R2 he=> ?_⟩
      rw[he x (by simp [Op.operands]),he y (by simp [Op.operands])]
      exact g2 _ (by simp)
    . rename_i op' t x hn
      simp only[gy]at h⊢
      split at h
      all_goals first
        |exact h.elim
        | (rename_i hx
           refine⟨_,h,λig R2 he=> ?_⟩
           rw[he x (by simp [Op.operands]),hx]
           simp)
    . rename_i s d x hn
      simp only[gy]at h⊢
      obtain⟨val,g1,g2⟩:=vU h
      refine⟨val,g1,λig R2 he=> ?_⟩
      rw[he x (by simp [Op.operands])]
      exact g2 _ (by simp)
    . rename_i s x f hn
      simp only[gy]at h⊢
      split at h
      . split at h
        . rename_i cs ti hx ht
          simp only[de]at h
          obtain⟨h1,h⟩:=h
          split at h
          . rename_i Cs
            simp only[D.e9]at h
            refine⟨_,h,λig R2 he=> ?_⟩
            simp only[he x (by simp [Op.operands]),hx,ht,de,Cs,D.e9]
            exact⟨h1,trivial,trivial⟩
          . rename_i Cs
            simp only[de,D.c7]at h
            refine⟨_,h.2,λig R2 he=> ?_⟩
            simp only[he x (by simp [Op.operands]),hx,ht,de,Cs,D.c7]
            exact⟨h1,h.1,trivial,trivial⟩
        . exact h.elim
      . exact h.elim
    . rename_i t x y hn
      simp only[gy]at h⊢
      split at h
      . rename_i ht hx hy
        simp only[de]at h
        refine⟨_,h.2,λig R2 he=> ?_⟩
        simp only[he x (by simp [Op.operands]),he y (by simp [Op.operands]),hx,hy,ht,de]
        exact⟨h.1,trivial,trivial⟩
      . rename_i ht hx hy
        simp only[de]at h
        obtain⟨h1,h⟩:=h
        split at h
        . rename_i wJ
          refine⟨_,h.2,λig R2 he=> ?_⟩
          simp only[he x (by simp [Op.operands]),he y (by simp [Op.operands]),hx,hy,ht,de,wJ]
          exact⟨h1,h.1,trivial,trivial⟩
        . rename_i wJ
          refine⟨_,h.2,λig R2 he=> ?_⟩
          simp only[he x (by simp [Op.operands]),he y (by simp [Op.operands]),hx,hy,ht,de,wJ]
          exact⟨h1,h.1,trivial,trivial⟩
        . exact h.elim
      . exact h.elim
    . rename_i t x y z hn
      split at hq
      . rename_i str hx
        simp only[gy,hx]at h⊢
        obtain⟨val,g1,g2⟩:=Y6 h
        refine⟨val,g1,λig R2 he=> ?_⟩
        rw[he x (by simp [Op.operands]),hx]
        exact g2 ig R2 (λu hu=>he u (by cases hu;simp [Op.operands])) (λu hu=>he u (by cases hu;simp [Op.operands]))
      . cases hq
    . rename_i t x y hn
      split at hq
      . rename_i str hx
        simp only[gy,hx]at h⊢
        obtain⟨val,g1,g2⟩:=Y6 h
        refine⟨val,g1,λig R2 he=> ?_⟩
        rw[he x (by simp [Op.operands]),hx]
        exact g2 ig R2 (λu hu=>he u (by cases hu;simp [Op.operands])) (λu hu=>he u (by cases hu))
      . cases hq
    . rename_i t x y hn
      split at hq
      . rename_i str hx
        simp only[gy,hx]at h⊢
        obtain⟨val,g1,g2⟩:=Y6 h
        refine⟨val,g1,λig R2 he=> ?_⟩
        rw[he x (by simp [Op.operands]),hx]
        exact g2 ig R2 (λu hu=>he u (by cases hu)) (λu hu=>he u (by cases hu;simp [Op.operands]))
      . cases hq
    . rename_i t x y hn
      split at hq
      . rename_i sz es fr hx
        simp only[gy,hx]at h⊢
        split at h
        . rename_i k n hy
          unfold Un at h⊢
          split at h
          . rename_i ht
            simp only[de]at h
            refine⟨_,h.2,λig R2 he=> ?_⟩
            simp only[he x (by simp [Op.operands]),he y (by simp [Op.operands]),hx,hy,ht,de]
            exact⟨h.1,trivial,trivial⟩
          . simp only[de]at h
            exact h.2.elim
          . exact h.elim
        . exact h.elim
      . cases hq
    . rename_i t x hn
      split at hq
      . rename_i sz es i off hx
        simp only[gy,hx]at h⊢
        unfold wq at h⊢
        split at h
        . exact h.elim
        . rename_i ti ht
          simp only[de]at h
          obtain⟨d,g1,g2⟩:=Uy h.2
          refine⟨d,g1,λig R2 he=> ?_⟩
          simp only[he x (by simp [Op.operands]),hx,ht,de]
          exact⟨h.1,g2 _ (by simp)⟩
      . cases hq
    . rename_i args dk hn
      split at hq
      . rename_i x ft
        have hxm:x∈(Op.call {callee:= .builtin .len,args:=args,argTypes:=dk}).operands:=by simp [Op.operands,Call.operands];rw[<-gL,ft];simp
        simp only[gy,ft]at h⊢
        split at h
        . rename_i y t e1 e2
          cases e1
          rw[e2]at*
          split at hq
          . rename_i str hx
            simp only[hx]at h⊢
            unfold sF at h⊢
            split at h
            . simp only at h
              exact⟨_,h,λig R2 he=>by simp only[he x hxm,hx];simp⟩
            . exact h.elim
            . exact h.elim
          . rename_i sz es fr hx
            simp only[hx]at h⊢
            unfold sF at h⊢
            split at h
            . exact h.elim
            . simp only at h
              exact⟨_,h,λig R2 he=>by simp only[he x hxm,hx];simp⟩
            . exact h.elim
          . cases hq
        . exact h.elim
      . cases hq
    . cases hq
theorem Y7{env:List (Nat×D)}{op:Op}{q:List Nat}(h:lG env op=some q){a:Nat}(ha:Operand.tmp a∈op.operands):a∈q:=by
 unfold lG at h
 split at h
 ·cases h;exact Zmh (by assumption) ha
 ·split at h
  all_goals first
   |(cases h;done)
   |(cases h;rw[Ap];simpa[Op.operands]using ha)
   |(split at h<;>first|(cases h;done)|(cases h;rw[Ap];simpa[Op.operands]using ha))
   |skip
  split at h
  ·rename_i x hx
   have ju:Operand.tmp a=x:=by
    simp[Op.operands,Call.operands]at ha
    rw[<-gL,hx]at ha
    simpa using ha
   split at h<;>first|(cases h;done)|(cases h;rw[Ap,ju];simp)
  ·cases h
theorem Z6p{G:List ba}{env:List (Nat×D)}{op:Op}{q:List Nat}(h:lG env op=some q):rO G op=false/\FN op=false/\(∀t x y,op≠.store t x y)/\(∀f args dk,op≠.call ⟨.value (.func f),args,dk⟩)/\∀t,op≠.alloc t:=by
 unfold lG at h
 split at h
 ·rename_i q' hp
  obtain⟨h1,h2,h3,h4,h5⟩:=Zd2 (G:=G) hp
  exact⟨h1,h2,h4,λ_ _ _=>h5 _,λt e=>by rw[e]at hp;cases hp⟩
 ·split at h<;>first|(cases h;done)|exact⟨rfl,rfl,λ_ _ _ h=>(by cases h),λ_ _ _ h=>(by cases h),λ_ h=>(by cases h)⟩
theorem Zsi{T:e7}{G:List ba}{N M:Nat}{o:Oper}{q:List Nat}{st:St}(hq:lG st.env o.op=some q){K:St->Prop}(h:lz T G N M o st K):gy T o.op (cj st.env) st.rows λd R=>st.put N o.dst d R K:=by
  obtain⟨dst,op,type,pos,after,guard⟩:=o
  simp only at hq⊢
  unfold lG at hq
  split at hq
  . rename_i q' hp
    exact yw (o:=⟨dst,op,type,pos,after,guard⟩) hp h
  . split at hq
    all_goals first
      |(cases hq;done)
      |exact h
      |skip
    . rename_i op' t x y ty hn
      unfold lz at h
      simp only at h
      split at h
      . rename_i hx hy
        rw[hx]at hq;cases hq
      . rename_i hx hy
        rw[hx]at hq;cases hq
      . exact h
    . rename_i s d x hn
      unfold lz at h
      simp only at h
      split at h
      . exfalso
        unfold uR at h
        split at h
        . split at h
          . rename_i he
            split at hq
            . rename_i hx;rw[hx]at he;cases he
            . rename_i hx;rw[hx]at he;cases he
            . cases hq
          . exact h
        . exact h
      . exact h
def sK:D->Bool|.all _=>true|.int _ _=>true|.str _=>true|.bool _=>true|.sl _ _ _=>true|.im _ _ _ _=>true|.ptr _ _ _=>true|.emp=>true|.c8=>true|_=>false
theorem Zeq{d:D}(h:Ji d=true):sK d=true:=by cases d<;>first|rfl|cases h
theorem Y8{d:D}(h:He d=true):sK d=true:=by cases d<;>first|rfl|cases h
theorem Zmn{ks:List Nat}{d p:D}(hp:sK p=true)(h:d.gl ks=p):d=p:=by
 subst h
 cases d with
 |all x=>simp only[D.gl,D.kill,D.ee]at hp⊢;cases hb:cv x ks<;>simp[hb,sK]at hp⊢
 |own x y z=>simp only[D.gl,D.kill,D.ee]at hp⊢;cases hb:cv x ks<;>simp[hb,sK]at hp
 |ptr x y z=>simp only[D.gl,D.kill,D.ee]at hp⊢;cases hb:cv x ks<;>simp[hb,sK]at hp⊢
 |pa x y z u v q=>simp only[D.gl,D.kill,D.ee]at hp⊢;cases hb:cv x ks<;>simp[hb,sK]at hp
 |gd x=>simp only[D.gl,D.kill,D.ee]at hp⊢;cases hb:cv x ks<;>simp[hb,sK]at hp
 |gk f cs=>simp only[D.gl,D.kill,D.ee]at hp⊢;cases hb:nC (od cs) ks<;>simp[hb,sK]at hp
 |_=>first|rfl|simp[D.gl,D.kill,D.ee,sK]at hp
theorem Zsr{env lT:List (Nat×D)}{op:Op}{q:List Nat}(h:lG env op=some q)(hb: ∀a∈q,sK (look env a)=true->look lT a=look env a):lG lT op=some q:=by
  have one: ∀(x:Operand),(∀a,x= .tmp a->a∈q)->sK (cj env x)=true->cj lT x=cj env x:=λx hx hs=>by
    cases x with
    |tmp a=>exact hb a (hx a rfl) hs
    |_=>rfl
  unfold lG at h⊢
  split at h
  . exact h
  . split at h
    all_goals first
      |(cases h;done)
      |exact h
      |skip
    all_goals
      split at h
      all_goals first
        |(cases h;done)
        | (rename_i hx
           cases h
           first
             |(have:=one _ (λa e=>by rw[Ap,<-e];exact eU) (by rw[hx];rfl);rw[this,hx])
             |(have:=one _ (λa e=>by rw[Ap,<-e];simp) (by rw[hx];rfl);rw[this,hx]))
        |skip
    split at h
    all_goals first
      |(cases h;done)
      | (rename_i hx
         cases h
         have:=one _ (λa e=>by rw[Ap,<-e];exact eU) (by rw[hx];rfl);rw[this,hx])
theorem xx{T:e7}{M:Nat}{t tx:TypeId}{x y:D}{R:Rows}{K:List Nat->D->Rows->Prop}(h:LD T M t tx x y R K):
 LD T M t tx x y R λks d R'=>((Ji x=true->ks=[]/\∀r row,R.getD r none=some row->R'.getD r none=some row)/\∀r row,R.getD r none=some row->cv r ks=false->R'.getD r none=some (row.kill ks))/\K ks d R':=by
 have go:∀{e sz lg:Nat} {Jj:List Nat} {es ys:ah},(Ji x=true->Jj=[])->Ch e sz lg R Jj es ys K->Ch e sz lg R Jj es ys λks d R'=>((Ji x=true->ks=[]/\∀r row,R.getD r none=some row->R'.getD r none=some row)/\∀r row,R.getD r none=some row->cv r ks=false->R'.getD r none=some (row.kill ks))/\K ks d R':=by
  intro e sz lg Jj es ys hx h
  simp only[Ch,de,mV]at h⊢
  have key:∀r row,R.getD r none=some row->cv r Jj=false->(rD Jj R 0++[some (⟨false,e,sz,es.app ys⟩:Row)]).getD r none=some (row.kill Jj):=λr row hr hm=>by
   have hl:r<R.length:=by
    by_cases hh:r<R.length
    ·exact hh
    ·simp only[aV,aJ (show R.length<=r by omega)]at hr;cases hr
   rw[Qpa (by rw[IP];exact hl),Ph,hr,Nat.zero_add,hm]
   simp
  refine⟨h.1,⟨λe=>⟨hx e,λr row hr=>?_⟩,key⟩,h.2⟩
  have:=key r row hr (by rw[hx e];rfl)
  rw[this,hx e,Z74]
 unfold LD at h⊢
 split at h
 ·split at h
  ·split at h
   ·rename_i jL
    simp only[de]at h⊢
    refine⟨h.1,?_⟩
    have h:=h.2
    cases x<;>first|(exact h.elim;done)|(exact go (λ_=>rfl) h;done)|skip
    all_goals
     (try simp only at h⊢)
     split at h
     ·exact⟨h.1,go (λe=>by cases e) h.2⟩
     ·exact h.elim
   ·exact h.elim
  ·exact h.elim
 ·exact h.elim
theorem Zr5{P:Program}{T:e7}(hT:jb P T){G:List ba}(hG:jr P G){N M:Nat}{ops:Array Oper}{o:Oper}{l:List Oper}{st:St}{K:St->Prop}(h:lI T G N M ops (o::l) st K):
    ∃ks val R' iA,(∀t,look iA t=look (rL ks st.env) t)/\(∀t,o.dst=some t->t<N)/\nj P G M ops o st.env st.rows ks val R'/\lI T G N M ops l ⟨rM iA o.dst val,R'⟩ K/\Jh P G o st.env st.rows ks val R':=by
  by_cases hL: ∃t a r ii off,o.guard=none/\o.op= .load t (.tmp a)/\look st.env a= .ptr r ii off
  . obtain⟨t,a,r,ii,off,hg,ho,ha⟩:=hL
    simp only[lI,hg,lz,ho,gy,cj,ha]at h
    obtain⟨d,h1,h2,h3⟩:=Zjz h
    obtain⟨g1,g2⟩:=oz h1
    have hN: ∀(ev:Operand->D) (R2:Rows),ev (.tmp a)= .ptr r ii off->R2.getD r none=st.rows.getD r none->pz P o ev R2 d R2:=λev R2 he uk=>by
      have:=h3 R2 uk
      obtain⟨val,R',⟨rfl,rfl⟩,hO⟩:=MH hT o ev R2 (λd' R'=>d'=d/\R'=R2) (by simp only[ho,gy,he];exact this)
      simpa [ho,FN] using hO
    have hN2: ∀(ev:Operand->D) (R2:Rows) row (L:List (List Nat)),pf d=true->(∀kk∈L,d.ee kk=d)->ev (.tmp a)= .ptr r ii off->st.rows.getD r none=some row->R2.getD r none=some (L.foldl (λr k=>Row.kill k r) row)->pz P o ev R2 d R2:=λev R2 row L hd hL he hr uk=>by
      have:=Zqo (h3 st.rows rfl) hd hL hr uk
      obtain⟨val,R',⟨rfl,rfl⟩,hO⟩:=MH hT o ev R2 (λd' R'=>d'=d/\R'=R2) (by simp only[ho,gy,he];exact this)
      simpa [ho,FN] using hO
    refine⟨[],d,st.rows,st.env,λt=>ow.symm,g1,?_,g2,λt' a' r' lO iE _ jg ju=> ?_,λt' b x r' lO iE _ jg=> ?_,λq _ hq=> ?_,λf args dk _ hf _=>by simp [ho]at hf,λt' _ hf=>by simp [ho]at hf,λargs dk _ hf=>by simp [ho]at hf,λargs dk x' l' _ hf=>by simp [ho]at hf⟩
    . unfold nj
      simp only[hg]
      exact Az (by rw[ho];rfl) (hN _ _ (by simp [cj,ha]) rfl)
    . rw[ho]at jg;cases jg
      rw[ha]at ju;cases ju
      exact⟨rfl,rfl,h2,hN,hN2⟩
    . rw[ho]at jg;cases jg
    . rw[ho]at hq;simp [lG,pj,cj,ha]at hq
  . by_cases hS : ∃t b x r ii off,o.guard=none/\o.op= .store t (.tmp b) x/\look st.env b= .ptr r ii off
    . obtain⟨t,b,x,r,ii,off,hg,ho,hb⟩:=hS
      simp only[lI,hg,lz,ho,gy]at h
      rw[show cj st.env (.tmp b)= .ptr r ii off by simp [cj,hb]]at h
      obtain⟨R',h1,h2,h3⟩:=Zdu h
      obtain⟨g1,g2⟩:=oz h1
      obtain⟨val,R2,⟨rfl,rfl⟩,hO⟩:=MH hT o (cj st.env) st.rows (λd' R2=>d'= .dead/\R2=R') (by simp only[ho,gy];rw[show cj st.env (.tmp b)= .ptr r ii off by simp [cj,hb]];exact h3)
      refine⟨[], .dead,R2,st.env,λt=>ow.symm,g1,?_,g2,λt' a' r' lO iE _ jg=> ?_,λt' b' x' r' lO iE _ jg rr=> ?_,λq _ hq=> ?_,λf args dk _ hf _=>by simp [ho]at hf,λt' _ hf=>by simp [ho]at hf,λargs dk _ hf=>by simp [ho]at hf,λargs dk x' l' _ hf=>by simp [ho]at hf⟩
      . unfold nj
        simp only[hg]
        have hO':DW P o (cj st.env) st.rows .dead R2:=by simpa [ho,FN] using hO
        exact Bq (by rw[ho];rfl) (λk hk=>by simp [cv]at hk) hO'.toK
      . rw[ho]at jg;cases jg
      . rw[ho]at jg;cases jg
        rw[hb]at rr;cases rr
        exact⟨rfl,h2⟩
      . rw[ho]at hq;cases hq
    . by_cases hP : ∃q,o.guard=none/\lG st.env o.op=some q
      . obtain⟨q,hg,hq⟩:=hP
        simp only[lI,hg]at h
        have rk:=Zsi hq h
        obtain⟨val,Y9,Zu⟩:=qx hq rk
        obtain⟨hW,hS',MA,hnc,hna⟩:=Z6p (G:=G) hq
        have hN: ∀(ev:Operand->D) (R2:Rows),(∀x∈o.op.operands,ev x=cj st.env x)->pz P o ev R2 val R2:=λev R2 he=>by
          obtain⟨Jan,R',⟨rfl,rfl⟩,hO⟩:=MH hT o ev R2 _ (Zu ev R2 he)
          simpa [hS'] using hO
        obtain⟨g1,g2⟩:=oz Y9
        refine⟨[],val,st.rows,st.env,λt=>ow.symm,g1,?_,g2,λt' a' r' lO iE hg' jg ju=>(hL ⟨t',a',r',lO,iE,hg',jg,ju⟩).elim,λt' b' x' r' lO iE _ jg=>(MA _ _ _ jg).elim,λq' _ Fi=>⟨rfl,rfl,hN⟩,λf args dk _ hf _=>(hnc _ _ _ hf).elim,λt' _ hf=>(hna _ hf).elim,λargs dk _ hf=>by rw[hf]at hq;simp [lG,pj]at hq,λargs dk x' l' _ hf=>by rw[hf]at hq;simp [lG,pj]at hq⟩
        unfold nj
        simp only[hg]
        exact Az hW (hN _ _ (λ_ _=>rfl))
      . by_cases hC: ∃f args dk,o.guard=none/\o.op= .call ⟨.value (.func f),args,dk⟩/\(oL G f=none/\Bs G f=false)
        . obtain⟨f,args,dk,hg,ho,ly,DV⟩:=hC
          obtain⟨dst,op,type,pos,after,guard⟩:=o
          simp only at hg ho
          subst hg;subst ho
          simp only[lI,lz,ly,DV]at h
          have HF: ∀x,oA G f=some x->x.oM=false:=λx hx=>by simpa [Bs,hx] using DV
          obtain⟨val,R',x,hK,hx,hO,hN⟩:=VM (dst:=dst) (type:=type) (pos':=pos) (after:=after) (guard:=none) (dk:=dk) hG ly h
          obtain⟨g1,g2⟩:=oz hK
          refine⟨[],_,_,st.env,λt=>ow.symm,g1,?_,g2,λt' a' r' lO iE _ jg=>(by cases jg),λt' b' x' r' lO iE _ jg=>(by cases jg),λq' _ Fi=>(by cases Fi),λ_ _ _ _ _ _=>rfl,λt' _ hf=>(by cases hf),λargs dk _ hf=>(by cases hf),λargs dk x' l' _ hf=>(by cases hf)⟩
          unfold nj
          cases hr:x.refs with
          |nil=>exact Az (by simp only[rO,hx,hr,HF x hx]) (hN hr)
          |cons b bs=>exact Bq (by simp only[rO,hx,hr]) (λk hk=>by simp [cv]at hk) hO.toK
        . by_cases hAl: ∃t,o.guard=none/\o.op= .alloc t
          . obtain⟨t,hg,ho⟩:=hAl
            obtain⟨dst,op,type,pos,after,guard⟩:=o
            simp only at hg ho
            subst hg;subst ho
            simp only[lI,lz,gy]at h
            split at h
            . rename_i ht
              simp only[de,aE,JZ]at h
              obtain⟨⟨h0,hl⟩,h⟩:=h
              obtain⟨g1,g2⟩:=oz h
              obtain⟨arr,hA⟩:=Zsf (o:=⟨dst, .alloc t,type,pos,after,none⟩) hT rfl ht (lE h0) (bE hl)
              refine⟨[],_,_,st.env,λt=>ow.symm,g1,?_,g2,λt' a' r' lO iE _ jg=>(by cases jg),λt' b' x' r' lO iE _ jg=>(by cases jg),λq' _ Fi=>(by cases Fi),λ_ _ _ _ hf=>(by cases hf),λt' _ hf=>⟨rfl,_,arr,hA,rfl,rfl⟩,λargs dk _ hf=>(by cases hf),λargs dk x' l' _ hf=>(by cases hf)⟩
              unfold nj
              exact Az rfl (Ps λc w a hm RX ej=>⟨_,rfl,Zq2 hT ht (lE h0) (bE hl) st.rows.length c w⟩)
            . exact h.elim
          by_cases Zv: ∃args dk,o.guard=none/\o.op= .call ⟨.builtin .append,args,dk⟩
          . obtain⟨args,dk,hg,ho⟩:=Zv
            obtain⟨dst,op,type,pos,after,guard⟩:=o
            simp only at hg ho
            subst hg;subst ho
            simp only[lI,lz]at h
            split at h
            . rename_i x y t tx oR ht
              have Jk:args= #[x,y]:=by rw[<-bW (xs:=args),oR]
              have tR:dk= #[t,tx]:=by rw[<-bW (xs:=dk),ht]
              subst Jk;subst tR
              have h':=xx h
              obtain⟨ks,R',⟨⟨Zw,Cj⟩,hK⟩,hM,hr⟩:=Zow (ty:=type) hT h'
              rw[HE]at hK
              obtain⟨h1,h2⟩:=oz hK
              refine⟨ks,_,_,_,λt=>rfl,h1,?_,h2,λt' a' r' lO iE _ jg=>(by cases jg),λt' b' x' r' lO iE _ jg=>(by cases jg),λq' _ Fi=>(by cases Fi),λ_ _ _ _ hf=>(by cases hf),λt' _ hf=>(by cases hf),λargs dk _ hf r row hr hm=>Cj r row hr hm,λargs dk x' l' _ hf ha he=> ?_⟩
              rotate_left
              . cases hf
                have hx:x= .tmp x':=by
                  have:=congrArg List.head? ha
                  simpa using this
                subst hx
                exact Zw he
              unfold nj
              refine Bq rfl hM λc w a hm hb hR ej K' Q pP=> ?_
              obtain⟨v',w',c',ie,hn,jT,hv⟩:=hr c w _ _ hm hb hR (ej x (by simp [Op.operands,Call.operands])) (ej y (by simp [Op.operands,Call.operands]))
              refine FO ?_ (pP v' w' c' hn jT hv)
              simp only[execOp,resolve,Sem.run_bind,Sem.run_pure,Result.andThen_ok,invoke,builtin]
              have:(#[x,y]:Array Operand).map a.eval= #[a.eval x,a.eval y]:=by simp
              rw[this,ie];rfl
            . exact h.elim
          obtain⟨ks,val,R',iA,h0,h1,h2,h3⟩:=Vt hT hG h
          exact⟨ks,val,R',iA,h0,h1,h2,h3,λt a r ii off hg ho ha=>(hL ⟨t,a,r,ii,off,hg,ho,ha⟩).elim,λt b x r ii off hg ho hb=>(hS ⟨t,b,x,r,ii,off,hg,ho,hb⟩).elim,λq hg hq=>(hP ⟨q,hg,hq⟩).elim,λf args dk hg ho ly=>(hC ⟨f,args,dk,hg,ho,ly⟩).elim,λt hg ho=>(hAl ⟨t,hg,ho⟩).elim,λargs dk hg ho=>(Zv ⟨args,dk,hg,ho⟩).elim,λargs dk x l' hg ho ha he=>(Zv ⟨args,dk,hg,ho⟩).elim⟩
theorem P3{d:D}(h:pf d=true):sK d=true:=by cases d<;>first|rfl|cases h
theorem zx{ks:List Nat}{d:D}{r i off:Nat}(h:d.gl ks=.ptr r i off):d=.ptr r i off:=by
 cases d with
 |all x=>simp only[D.gl,D.kill,D.ee]at h;cases hb:cv x ks<;>rw[hb]at h<;>cases h
 |own x y z=>simp only[D.gl,D.kill,D.ee]at h;cases hb:cv x ks<;>rw[hb]at h<;>cases h
 |ptr x y z=>simp only[D.gl,D.kill,D.ee]at h;cases hb:cv x ks<;>rw[hb]at h<;>cases h;rfl
 |pa x y z u v q=>simp only[D.gl,D.kill,D.ee]at h;cases hb:cv x ks<;>rw[hb]at h<;>cases h
 |gd x=>simp only[D.gl,D.kill,D.ee]at h;cases hb:cv x ks<;>rw[hb]at h<;>cases h
 |gk f cs=>simp only[D.gl,D.kill,D.ee]at h;cases hb:nC (od cs) ks<;>rw[hb]at h<;>cases h
 |dw ds=>simp[D.gl]at h
 |agg ds=>simp[D.gl,D.kill]at h
 |_=>simp[D.gl,D.kill,D.ee]at h
theorem Jl{ops:Array Oper}{i a k:Nat}{o:Oper}(h:kL ops i a=true)(hk:i<=k)(ho:ops[k]?=some o):o.dst≠some a:=by
 intro hd
 have hm:o∈ops.toList.drop i:=by
  have h1:(ops.toList.drop i)[k-i]?=some o:=by
   rw[List.getElem?_drop,show i+(k-i)=k by omega];simpa using ho
  exact fL h1
 have:=List.all_eq_true.1 h o hm
 simp[hd]at this
theorem Zrg{G:List ba}{f:FuncId}(h:(match oL G f with|some _=>true|none=>Bs G f)=false):oL G f=none/\Bs G f=false:=by
 cases hg:oL G f with
 |none=>rw[hg]at h;exact⟨rfl,h⟩
 |some k=>rw[hg]at h;cases h
def Jm(ops:Array Oper)(env:List (Nat×D))(i:Nat)(o:Oper)(q:List Nat):Prop:=
 (∀a∈q,kL ops i a=true/\He (look env a)=true)/\∀t,o.dst=some t->kL ops (i+1) t=true/\He (look env t)=true
theorem UA{env:List (Nat×D)}{op:Op}{q:List Nat}(h:pj op=some q):lG env op=some q:=by
 unfold lG;rw[h]
theorem P4{G:List ba}{ops:Array Oper}{env:List (Nat×D)}{i j:Nat}{x y:Oper}(hx:ops[i]?=some x)(hy:ops[j]?=some y)(h:L1 G ops env i j=true):
 (∃t a t' b z r r' ii off lO iE,x.guard=none/\y.guard=none/\x.op=.load t (.tmp a)/\y.op=.store t' (.tmp b) z/\kL ops i a=true/\kL ops j b=true/\look env a=.ptr r ii off/\look env b=.ptr r' lO iE/\r≠r')\/
 (∃q,x.guard=none/\y.guard=none/\lG env x.op=some q/\(∀a∈q,kL ops i a=true)/\((∃t' b z r' lO iE,y.op=.store t' (.tmp b) z/\kL ops j b=true/\look env b=.ptr r' lO iE)\/∃f args dk,y.op=.call ⟨.value (.func f),args,dk⟩/\(oL G f=none/\Bs G f=false)))\/
 (∃q,x.guard=none/\pj x.op=some q/\Jm ops env i x q)\/
 (∃t a r ii off args dk x0 l,x.guard=none/\y.guard=none/\x.op=.load t (.tmp a)/\kL ops i a=true/\look env a=.ptr r ii off/\y.op=.call ⟨.builtin .append,args,dk⟩/\args.toList=.tmp x0::l/\kL ops j x0=true/\Ji (look env x0)=true)\/
 (∃t a r ii off args dk td,x.guard=none/\y.guard=none/\x.op=.load t (.tmp a)/\kL ops i a=true/\look env a=.ptr r ii off/\y.op=.call ⟨.builtin .append,args,dk⟩/\x.dst=some td/\kL ops (i+1) td=true/\pf (look env td)=true):=by
 unfold L1 at h
 simp only[hx,hy]at h
 split at h
 ·rename_i t a t' b z h1 h2 h3 h4
  simp only[aE]at h
  obtain⟨g1,g2,g3⟩:=h
  split at g3
  ·rename_i r ii off r' lO iE e1 e2
   refine .inl ⟨t,a,t',b,z,r,r',ii,off,lO,iE,h1,h2,h3,h4,g1,g2,e1,e2,λe=>?_⟩
   subst e
   simp at g3
  ·rename_i sz es k off r' lO iE e1 e2
   exact .inr (.inl ⟨[a],h1,h2,by rw[h3];simp[lG,pj,cj,e1,mu],λa' ha=>by simp at ha;subst ha;exact g1,.inl ⟨t',b,z,r',lO,iE,h4,g2,e2⟩⟩)
  ·cases g3
 ·rename_i op t' b z h1 h2 h4 _
  split at h
  ·rename_i q hq
   simp only[aE]at h
   obtain⟨g1,g2,g3⟩:=h
   split at g3
   ·rename_i r' lO iE e2
    exact .inr (.inl ⟨q,h1,h2,hq,λa ha=>List.all_eq_true.1 g1 a ha,.inl ⟨t',b,z,r',lO,iE,h4,g2,e2⟩⟩)
   ·cases g3
  ·cases h
 ·rename_i op f dk h1 h2 h4
  split at h
  ·cases h
  ·rename_i HO
   have Zx:=Zrg HO
   split at h
   ·rename_i q hq
    exact .inr (.inl ⟨q,by assumption,by assumption,hq,λa ha=>List.all_eq_true.1 h a ha,.inr ⟨_,_,_,by assumption,Zx⟩⟩)
   ·cases h
 ·rename_i op args dk h1 h2 h4 _
  split at h
  ·rename_i q hq
   simp only[aE]at h
   refine .inr (.inr (.inl ⟨q,by assumption,hq,λa ha=>?_,λt ht=>?_⟩))
   ·have:=List.all_eq_true.1 h.1 a ha
    simpa only[aE]using this
   ·have:=h.2
    simp only[ht,aE]at this
    exact this
  ·have P5:∀{d:D},He d=true->∃r ii off,d=.ptr r ii off:=fun{d} k=>by
    cases d<;>first|(cases k;done)|exact⟨_,_,_,rfl⟩
   rcases Bool.or_eq_true_iff.1 h with h|h
   ·unfold CK at h
    split at h
    ·rename_i t a x0 l Zy hl
     simp only[aE]at h
     obtain⟨k1,k2,k3,k4⟩:=h
     obtain⟨r,ii,off,hr⟩:=P5 k3
     exact .inr (.inr (.inr (.inl ⟨t,a,r,ii,off,dk,h1,x0,l,by assumption,by assumption,Zy,k1,hr,by assumption,hl,k2,k4⟩)))
    ·cases h
   ·unfold CL at h
    split at h
    ·rename_i t a td Zy tC
     simp only[aE]at h
     obtain⟨k1,k2,k3,k4⟩:=h
     obtain⟨r,ii,off,hr⟩:=P5 k2
     exact .inr (.inr (.inr (.inr ⟨t,a,r,ii,off,dk,h1,td,by assumption,by assumption,Zy,k1,hr,by assumption,tC,k3,k4⟩)))
    ·cases h
 ·cases h
theorem Zmb{ops:Array Oper}{j:Nat}{y:Oper}(hy:ops[j]?=some y)(h:uD ops j=true):(∃t,y.guard=none/\y.op=.alloc t)/\∀u,y.dst=some u->∀k o',k≠j->ops[k]?=some o'->o'.dst≠some u:=by
 unfold uD at h
 simp only[hy]at h
 split at h
 ·rename_i t h1 h2
  refine⟨⟨t,h1,h2⟩,λu hu k o' hk dy hd=>?_⟩
  simp only[hu]at h
  have bg:=(Array.getElem?_eq_some_iff.1 dy).1
  have:=List.all_eq_true.1 h k (List.mem_range.2 bg)
  simp only[dy,aW,hd,aT]at this
  rcases this with this|this
  ·exact hk (bE this)
  ·simp at this
 ·cases h
theorem Fj{G:List ba}{ops:Array Oper}{env:List (Nat×D)}(h:P6 G ops env=true){i j:Nat}{x y:Oper}(JI:i<j)(hx:ops[i]?=some x)(hy:ops[j]?=some y):
 (x.apart ops y=true\/((Region.before ops).getD j 0).testBit i=true)/\((kN G x.op=true/\kN G y.op=true)\/((Region.before ops).getD j 0).testBit i=true\/L1 G ops env i j=true\/((∃t,y.guard=none/\y.op=.alloc t)/\∀u,y.dst=some u->∀k o',k≠j->ops[k]?=some o'->o'.dst≠some u)):=by
 have hj:=(Array.getElem?_eq_some_iff.1 hy).1
 have h1:=List.all_eq_true.1 h j (List.mem_range.2 hj)
 simp only[aE]at h1
 have h2:=List.all_eq_true.1 h1.2 i (List.mem_range.2 JI)
 unfold wA at h2
 simp only[hx,hy,aE,aT]at h2
 exact⟨h2.1,h2.2.elim (λg=>g.elim .inl (λg=>.inr (.inl g))) (λg=>g.elim (λg=>.inr (.inr (.inl g))) (λg=>.inr (.inr (.inr (Zmb hy g)))))⟩
theorem Zjt{G:List ba}{ops:Array Oper}{env:List (Nat×D)}(h:P6 G ops env=true){j:Nat}{y:Oper}(hy:ops[j]?=some y):∀e∈y.after,Region.binds .any e=true->e.on<j:=by
 have hj:=(Array.getElem?_eq_some_iff.1 hy).1
 have h1:=List.all_eq_true.1 h j (List.mem_range.2 hj)
 simp only[aE,hy]at h1
 intro e he hb
 have:=Array.all_eq_true'.1 h1.1 e he
 simp only[hb,Bool.not_true,Bool.false_or]at this
 exact lE this
theorem zau{P:Program}{G:List ba}{ops:Array Oper}{M:Nat}{c:Ctx}{w:World}{env:List (Nat×D)}{R:Rows}{a:Act}{i:Nat}{o:Oper}{ks:List Nat}{val:D}{R':Rows}(hi:ops[i]?=some o)
 (hm:Mem c w) (hb:c.base<=w.heap.size) (hR:∀r,c.R r=R.getD r none) (ej:∀t∈o.looksAt ops,Rep c w (look env t) (a.tmps.getD t undef)) (hG:nj P G M ops o env R ks val R') {K:Act->World->Prop} {Q:Exit->Act->World->Prop}
 (hK:∀v w' c',(∀k,cv k ks=true->M<=k)->jE ks c w c' w'->(∀r,c'.R r=R'.getD r none)->Rep c' w' val v->K (a.put o.dst v) w'):wpOp P ops Q i K a w:=by
 have hx:∀x∈o.op.operands,Rep c w (cj env x) (a.eval x):=λx hx=>by
  cases x with
  |tmp t=>
   refine ej t ?_
   unfold Oper.looksAt
   exact eS _ (List.mem_filterMap.2 ⟨.tmp t,by simpa using hx,rfl⟩)
  |const v=>
   simp only[cj,Act.eval]
   cases hv:FG v with
   |none=>trivial
   |some d=>exact MC hv c w
  |global g=>trivial
  |func f=>exact JO f
 have run:pr P G M o (cj env) R ks val R'->o.mU P a w K Q:=λhX=>hX.toK.2 c w a hm hb hR hx K Q λv w' c' h1 h2 h3=>hK v w' c' hX.toK.1 h1 h2 h3
 have skip:ks=[]->val=.dw []->R'=R->K (a.put o.dst undef) w:=λe0 e1 e2=>by
  subst e0;subst e1;subst e2
  exact hK undef w c (λk hk=>by simp[cv]at hk) (lu.toK ⟨hm,iW.refl _ _,Fr.refl _ _,λb hb=>.inl hb,λr row hr v=>.inl ⟨⟨row,hr⟩,v,rfl⟩⟩) hR (RY _ _)
 unfold wpOp
 simp only[hi]
 unfold nj at hG
 cases hg:o.guard with
 |none=>
  simp only[hg]at hG
  have hw:Region.wanted o (yielded ops a.tmps)=true:=by simp[Region.wanted,hg]
  rw[if_pos hw]
  exact run hG
 |some jw=>
  obtain⟨j,want⟩:=jw
  simp only[hg]at hG
  obtain⟨g,h2,hG⟩:=hG
  have hr:=ej g (by
   unfold Oper.looksAt
   refine eX _ ?_
   simp only[hg,h2];simp)
  rcases hG with⟨b,h3,h4⟩|⟨h3,e0,e1,e2⟩
  rotate_left
  ·rw[h3]at hr
   rw[if_neg (by rw[RZ (o:=o) hg h2 hr];simp)]
   exact skip e0 e1 e2
  rw[h3]at hr
  have hw:=R3 (o:=o) hg h2 hr
  by_cases e:b=want
  ·rw[if_pos e]at h4
   rw[if_pos (by rw[hw];simpa using e)]
   exact run h4
  ·rw[if_neg e]at h4
   rw[if_neg (by rw[hw];simpa using e)]
   exact skip h4.1 h4.2.1 h4.2.2
structure UB(P:Program)(G:List ba)(N M:Nat)(ops:Array Oper)(s:Nat->St)(ks:Nat->List Nat)(val:Nat->D):Prop extends Chain P G N M ops s ks val where
 mh:∀(i:Nat) (o:Oper),ops[i]?=some o->Jh P G o (s i).env (s i).rows (ks i) (val i) (s (i+1)).rows
theorem Zjv{P:Program}{T:e7}(hT:jb P T){G:List ba}(hG:jr P G){N M:Nat}{ops:Array Oper}{K:St->Prop}:∀(l:List Oper) (k:Nat) (st:St),ops.toList.drop k=l->lI T G N M ops l st K->
 ∃ (s:Nat->St) (ks:Nat->List Nat) (val:Nat->D),s k=st/\K (s (k+l.length))/\(∀(i:Nat) (o:Oper),k<=i->ops[i]?=some o->nj P G M ops o (s i).env (s i).rows (ks i) (val i) (s (i+1)).rows)/\
  (∀(i:Nat) (o:Oper) (t:Nat),k<=i->ops[i]?=some o->look (s (i+1)).env t=if o.dst=some t then val i else look (rL (ks i) (s i).env) t)/\(∀(i:Nat) (o:Oper) (t:Nat),k<=i->ops[i]?=some o->o.dst=some t->t<N)/\
  (∀(i:Nat) (o:Oper),k<=i->ops[i]?=some o->Jh P G o (s i).env (s i).rows (ks i) (val i) (s (i+1)).rows)
 |[],k,st,hk,h=>by
  have hlen:ops.size<=k:=by
   have:=congrArg List.length hk
   simp at this;omega
  have no:∀(i:Nat) (o:Oper),k<=i->ops[i]?=some o->False:=λi o hi ho=>by
   have:=(Array.getElem?_eq_some_iff.1 ho).1;omega
  exact⟨λ_=>st,λ_=>[],λ_=>.dead,rfl,h,λi o hi ho=>(no i o hi ho).elim,λi o t hi ho=>(no i o hi ho).elim,λi o t hi ho=>(no i o hi ho).elim,λi o hi ho=>(no i o hi ho).elim⟩
 |o ::l,k,st,hk,h=>by
  have bg:k<ops.toList.length:=by
   by_cases bg:k<ops.toList.length
   ·exact bg
   ·rw[List.drop_eq_nil_of_le (by omega)]at hk;cases hk
  rw[List.drop_eq_getElem_cons bg]at hk
  have ho:ops[k]?=some o:=by
   have:=(List.cons.inj hk).1
   rw[<-this]
   simp at bg
   simp[bg]
  obtain⟨kk,v,R',iA,h1,h2,h3,h4,h5⟩:=Zr5 hT hG h
  obtain⟨s,ks,val,g1,g2,g3,g4,g5,g6⟩:=Zjv hT hG l (k+1) _ (List.cons.inj hk).2 h4
  refine⟨λi=>if i=k then st else s i,λi=>if i=k then kk else ks i,λi=>if i=k then v else val i,by simp,?_,λi p hi hp=>?_,λi p t hi hp=>?_,λi p t hi hp hd=>?_,λi p hi hp=>?_⟩
  ·simp only[List.length_cons]
   rw[if_neg (by omega),show k+(l.length+1)=k+1+l.length by omega]
   exact g2
  ·by_cases e:i=k
   ·subst e
    rw[ho]at hp;cases hp
    simp only[if_true,show¬i+1=i by omega,if_false,g1]
    exact h3
   ·simp only[if_neg e,if_neg (show¬i+1=k by omega)]
    exact g3 i p (by omega) hp
  ·by_cases e:i=k
   ·subst e
    rw[ho]at hp;cases hp
    simp only[if_true,show¬i+1=i by omega,if_false,g1]
    cases tC:o.dst with
    |none=>simp[rM,h1]
    |some u=>simp only[rM,Qc,Option.some.injEq,h1]
   ·simp only[if_neg e,if_neg (show¬i+1=k by omega)]
    exact g4 i p t (by omega) hp
  ·by_cases e:i=k
   ·subst e
    rw[ho]at hp;cases hp
    exact h2 t hd
   ·exact g5 i p t (by omega) hp hd
  ·by_cases e:i=k
   ·subst e
    rw[ho]at hp;cases hp
    simp only[if_true,show¬i+1=i by omega,if_false,g1]
    exact h5
   ·simp only[if_neg e,if_neg (show¬i+1=k by omega)]
    exact g6 i p (by omega) hp
section
variable {P:Program} {G:List ba} {N M:Nat} {ops:Array Oper} {s:Nat->St} {ks:Nat->List Nat} {val:Nat->D} (hc:UB P G N M ops s ks val)
include hc
theorem DK{i a r ii off:Nat}(hn:kL ops i a=true)(h:look (s ops.size).env a=.ptr r ii off):∀{k:Nat},i<=k->k<=ops.size->look (s k).env a=.ptr r ii off:=by
 intro k nQ hk
 obtain⟨n,PS⟩:∃n,ops.size=k+n:=⟨ops.size-k,by omega⟩
 have:∀n k,i<=k->k+n<=ops.size->look (s (k+n)).env a=.ptr r ii off->look (s k).env a=.ptr r ii off:=by
  intro n
  induction n with
  |zero=>intro k _ _ h;exact h
  |succ n ih=>
   intro k h1 h2 h3
   have ho:ops[k]?=some ops[k]:=aU (by omega)
   have h4:=ih (k+1) (by omega) (by omega) (by rw[show k+1+n=k+(n+1) by omega];exact h3)
   rw[hc.env k _ a ho,if_neg (Jl hn h1 ho),Br]at h4
   exact zx h4
 exact this n k nQ (by omega) (by rw[<-PS];exact h)
theorem DL{i a:Nat}(hn:kL ops i a=true)(h:sK (look (s ops.size).env a)=true):∀{k:Nat},i<=k->k<=ops.size->look (s k).env a=look (s ops.size).env a:=by
 intro k nQ hk
 obtain⟨n,PS⟩:∃n,ops.size=k+n:=⟨ops.size-k,by omega⟩
 have:∀n k,i<=k->k+n<=ops.size->∀p,sK p=true->look (s (k+n)).env a=p->look (s k).env a=p:=by
  intro n
  induction n with
  |zero=>intro k _ _ p _ h;exact h
  |succ n ih=>
   intro k h1 h2 p hp h3
   have ho:ops[k]?=some ops[k]:=aU (by omega)
   have h4:=ih (k+1) (by omega) (by omega) p hp (by rw[show k+1+n=k+(n+1) by omega];exact h3)
   rw[hc.env k _ a ho,if_neg (Jl hn h1 ho),Br]at h4
   exact Zmn hp h4
 exact this n k nQ (by omega) _ h (by rw[<-PS])
theorem Zoh{i:Nat}{op:Op}{q:List Nat}(h:lG (s ops.size).env op=some q)(hq:∀a∈q,kL ops i a=true){k:Nat}(h1:i<=k)(h2:k<=ops.size):lG (s k).env op=some q:=
 Zsr h λa ha hs=>DL hc (hq a ha) hs h1 h2
theorem Zz{du:Nat->Bool}{c:Nat}{t:Nat}:∀{n:Nat},(∀i o,i<n->ops[c+i]?=some o->o.dst=some t->du (c+i)=false)->iX ops s val du c n t=look (s c).env t
 |0,_=>rfl
 |n + 1,h=>by
  simp only[iX]
  rw[if_neg]
  ·exact Zz (λi o hi=>h i o (by omega))
  ·rintro⟨g1,g2⟩
   cases hk:ops[c+n]? with
   |none=>rw[hk]at g2;cases g2
   |some o=>
    rw[hk]at g2
    rw[h n o (by omega) hk g2]at g1;cases g1
theorem Zja{du:Nat->Bool}{c d:Nat}{t:Nat}(hq:∀(i:Nat) (o:Oper),c<=i->i<d->ops[i]?=some o->kN G o.op=true)(hd:d<=ops.size):∀{n:Nat},c+n<=d->(∀i o,i<n->ops[c+i]?=some o->o.dst=some t->du (c+i)=true)->iX ops s val du c n t=look (s (c+n)).env t
 |0,_,_=>rfl
 |n +1,hn,hl=>by
  have ho:ops[c+n]?=some ops[c+n]:=aU (by omega)
  simp only[iX,ho,aW]
  rw[show c+(n+1)=(c+n)+1 by omega,hc.toChain.DR ho (hq _ _ (by omega) (by omega) ho) t]
  by_cases o7:ops[c+n].dst=some t
  ·rw[if_pos ⟨hl n _ (by omega) ho o7,o7⟩,if_pos o7]
  ·rw[if_neg (λg=>o7 g.2),if_neg o7]
   exact Zja hq hd (by omega) (λi o hi=>hl i o (by omega))
theorem Zaq{du:Nat->Bool}{c d:Nat}(hq:∀(i:Nat) (o:Oper),c<=i->i<d->ops[i]?=some o->kN G o.op=true)(hd:d<=ops.size):∀{n:Nat},c+n<=d->(∀i,i<n->du (c+i)=true\/(s (c+i+1)).rows=(s (c+i)).rows)->∀r,ki s du c n r=(s (c+n)).rows.getD r none
 |0,_,_,r=>rfl
 |n + 1,hn,hl,r=>by
  simp only[ki]
  rw[show c+(n+1)=c+n+1 by omega]
  have hlen:=JM hc.toChain hq hd (show c<=c+n by omega) (show c+n<=c+n+1 by omega) (by omega)
  have ih:=Zaq hq hd (n:=n) (by omega) (λi hi=>hl i (by omega)) r
  rcases hl n (by omega)with h|h
  ·simp only[h,true_and]
   split
   ·rfl
   ·rw[ih]
    by_cases h2:r<(s (c+n)).rows.length
    ·exact(JN hc.toChain hq hd (by omega) (by omega) (by omega) h2).symm
    ·simp only[aV]
     rw[aJ (by omega),aJ (by omega)]
  ·rw[if_neg (by rw[h];omega),ih,h]
theorem Zgt{du:Nat->Bool}{c d:Nat}(hq:∀(i:Nat) (o:Oper),c<=i->i<d->ops[i]?=some o->kN G o.op=true)(hd:d<=ops.size){r:Nat}(hr:r<(s c).rows.length):∀{n:Nat},c+n<=d->ki s du c n r=(s c).rows.getD r none
 |0,_=>rfl
 |n+1,hn=>by
  simp only[ki]
  have hlen:=JM hc.toChain hq hd (show c<=c by omega) (show c<=c+n by omega) (by omega)
  rw[if_neg (by omega)]
  exact Zgt hq hd hr (by omega)
end
structure sL(w0:World)(cx:Ctx)(w:World)(b:Nat)(arr:Array Value)(ty:TypeId):Prop where
 jv:w0.heap.size<=b
 lt:b<w.heap.size
 here:w.heap[b]?=some (.cells arr ty (0,0))
 ff:¬cx.I b
 row:∀r row,cx.R r=some row->¬cx.V r->cx.ρ r≠b
theorem sL.dv{w0 w w':World}{c c':Ctx}{ks:List Nat}{b:Nat}{arr:Array Value}{ty:TypeId}(h:sL w0 c w b arr ty)(n:jE ks c w c' w'):sL w0 c' w' b arr ty:=by
 refine⟨h.jv,bM h.lt n.fr.size,(n.fr.heap b h.lt fun⟨r,x,h1,h2,h3⟩=>h.row r x h1 h2 h3).trans h.here,λhb=>?_,λr row hr hv e=>?_⟩
 ·rcases n.ff b hb with g|⟨s,x,_,g1,g2,g3⟩|g
  ·exact h.ff g
  ·exact h.row s x g1 g2 g3
  ·have:=h.lt;omega
 ·rcases n.nU r row hr hv with⟨⟨x,g1⟩,g2,g3⟩|⟨s,x,_,g1,g2,g3⟩|g
  ·exact h.row r x g1 g2 (by rw[<-g3];exact e)
  ·exact h.row s x g1 g2 (by rw[<-g3];exact e)
  ·have:=h.lt;omega
theorem yx{a:Act}{o:Oper}{v:Value}{u:Nat}(h:o.dst≠some u):(a.put o.dst v).tmps.getD u undef=a.tmps.getD u undef:=by
 cases ho:o.dst with
 |none=>simp[Act.put]
 |some x=>
  have gm:x≠u:=λe=>h (by rw[ho,e])
  simp[Act.put,aZ gm]
theorem xV{a:Act}{dst:Option Tmp}{v:Value}{u:Nat}(h:dst=some u)(bg:u<a.tmps.size):(a.put dst v).tmps.getD u undef=v:=by
 subst h
 simp[Act.put,aY,bg]
def L2(P:Program)(ops:Array Oper)(s:Nat->St)(val:Nat->D)(w0:World)(cx:Ctx)(w:World)(a:Act)(i b:Nat):Prop:=
 ∃ o t row arr,ops[i]?=some o/\o.guard=none/\o.op=.alloc t/\Uz P o row arr/\val i=.ptr (s i).rows.length 0 0/\(s (i+1)).rows=(s i).rows++[some row]/\sL w0 cx w b arr row.ty/\
  (∀u,o.dst=some u->a.tmps.getD u undef=.pointer (some ⟨b,0,none⟩))/\∀u,o.dst=some u->∀k o',k≠i->ops[k]?=some o'->o'.dst≠some u
theorem L2.dv{P:Program}{ops:Array Oper}{s:Nat->St}{val:Nat->D}{w0 w w':World}{c c':Ctx}{ks:List Nat}{a:Act}{i k b:Nat}{o:Oper}{v:Value}(h:L2 P ops s val w0 c w a k b)(n:jE ks c w c' w')(nQ:i≠k)(ho:ops[i]?=some o):L2 P ops s val w0 c' w' (a.put o.dst v) k b:=by
 obtain⟨o',t,row,arr,g1,g2,g3,g4,g5,g6,g7,g8,g9⟩:=h
 exact⟨o',t,row,arr,g1,g2,g3,g4,g5,g6,g7.dv n,λu hu=>by rw[yx (g9 u hu i o nQ ho)];exact g8 u hu,g9⟩
theorem ZA{c:Ctx}{w:World}(hm:Mem c w)(o:Obj):iW c w c (w.alloc o):=
 ⟨rfl,aX _,λb hb=>⟨hb,wV w o b (hm.ff b hb).1⟩,λr x hr=>⟨x,hr,rfl,rfl,rfl,rfl,rfl,Iff.rfl,λnv arr ha=>⟨arr,by rw[wV w o _ (hm.lt hr nv)];exact ha,rfl⟩⟩⟩
theorem ZB(w:World)(o:Obj):(w.alloc o).heap.size=w.heap.size+1:=by show(w.heap.push o).size=_;simp
theorem Zsd{c:Ctx}{w:World}(hm:Mem c w)(o:Obj):Mem c (w.alloc o):=
 ⟨λr row hr=>sV (ZA hm o) rfl Iff.rfl (λnv=>wV w o _ (hm.lt hr nv)) (hm.row r row hr),hm.inj,(λb hb=>⟨by have:=(hm.ff b hb).1;rw[ZB];omega,(hm.ff b hb).2⟩),by have:=hm.top;rw[ZB];omega,hm.jP.mono (ZA hm o).I⟩
theorem Zj6{c:Ctx}{w:World}{k:Nat}(hk:c.R k=none)(row:Row)(b:Nat):iW c w (c.add k row b) w:=by
 refine⟨rfl,aX _,λb hb=>⟨hb,rfl⟩,λr x hr=>?_⟩
 have gm:r≠k:=λe=>by rw[e,hk]at hr;cases hr
 exact⟨x,by simp[Ctx.add,gm,hr],rfl,rfl,rfl,rfl,by simp[Ctx.add,gm],by simp[Ctx.add,gm],λnv arr ha=>⟨arr,ha,rfl⟩⟩
theorem xau{P:Program}{o:Oper}{c:Ctx}{w w0:World}(hm:Mem c w){k:Nat}(hk:c.R k=none){row:Row}{b:Nat}{arr:Array Value}(hA:Uz P o row arr)(hl:sL w0 c w b arr row.ty):Mem (c.add k row b) w:=by
 have hg:=Zj6 (w:=w) hk row b
 have jv:∀r x,r≠k->(c.add k row b).R r=some x->c.R r=some x/\(c.add k row b).ρ r=c.ρ r/\((c.add k row b).V r↔c.V r):=λr x e h=>⟨by simpa[Ctx.add,e]using h,by simp[Ctx.add,e],by simp[Ctx.add,e]⟩
 refine⟨λr x hr=>?_,λr s x y hr hs v1 v2 he=>?_,λb' hb=>⟨(hm.ff b' hb).1,λr x hr v=>?_⟩,hm.top,hm.jP⟩
 ·by_cases e:r=k
  ·subst e
   simp only[Ctx.add,if_true,Option.some.injEq]at hr
   subst hr
   obtain⟨e,h1,h2,h3,h4⟩:=hA.cells
   refine .inr ⟨by simp[Ctx.add],arr,by simp only[Ctx.add,if_true];exact hl.here,hA.sz,?_⟩
   rw[if_pos hA.box]
   exact⟨e,h1,h2,h3,h4 _ _⟩
  ·obtain⟨g1,g2,g3⟩:=jv r x e hr
   exact sV hg g2 g3 (λ_=>rfl) (hm.row r x g1)
 ·by_cases e1:r=k<;>by_cases e2:s=k
  ·rw[e1,e2]
  ·obtain⟨g1,g2,g3⟩:=jv s y e2 hs
   exfalso
   refine hl.row s y g1 (λe=>v2 (g3.2 e)) ?_
   rw[<-g2,<-he,e1];simp[Ctx.add]
  ·obtain⟨g1,g2,g3⟩:=jv r x e1 hr
   exfalso
   refine hl.row r x g1 (λe=>v1 (g3.2 e)) ?_
   rw[<-g2,he,e2];simp[Ctx.add]
  ·obtain⟨g1,g2,g3⟩:=jv r x e1 hr
   obtain⟨k1,k2,k3⟩:=jv s y e2 hs
   exact hm.inj r s x y g1 k1 (λe=>v1 (g3.2 e)) (λe=>v2 (k3.2 e)) (by rw[<-g2,<-k2];exact he)
 ·by_cases e:r=k
  ·subst e
   simp only[Ctx.add,if_true]
   intro e;subst e
   exact hl.ff hb
  ·obtain⟨g1,g2,g3⟩:=jv r x e hr
   rw[g2];exact(hm.ff b' hb).2 r x g1 (λe=>v (g3.2 e))
def P7(ops:Array Oper)(env:List (Nat×D))(i:Nat)(o:Oper):Prop:=∃td,o.dst=some td/\kL ops (i+1) td=true/\pf (look env td)=true
def P8(ops:Array Oper)(s:Nat->St)(ks:Nat->List Nat)(i c:Nat):Prop:=
 (∃o t a r ii off row ao,ops[i]?=some o/\o.guard=none/\o.op=.load t (.tmp a)/\kL ops i a=true/\look (s ops.size).env a=.ptr r ii off/\(s i).rows.getD r none=some row/\(s c).rows.getD r none=some ao/\((ao=row/\∀k,i<k->k<c->ks k=[])\/(P7 ops (s ops.size).env i o/\∃L:List (List Nat),ao=L.foldl (λr k=>Row.kill k r) row/\∀kk∈L,∃j,i<j/\j<c/\kk=ks j)))\/
 (∃o q,ops[i]?=some o/\o.guard=none/\lG (s ops.size).env o.op=some q/\(∀a∈q,kL ops i a=true)/\((∀k,i<k->k<c->ks k=[])\/Jm ops (s ops.size).env i o q))
structure Inv2(P:Program)(G:List ba)(N M:Nat)(ops:Array Oper)(s:Nat->St)(ks:Nat->List Nat)(val:Nat->D)(c0:Ctx)(w0:World)(du:Nat->Bool)(a:Act)(w:World)(c d:Nat):Prop where
 cd:c<=d
 dn:d<=ops.size
 pre:∀i,i<c->du i=true\/P8 ops s ks i c
 quiet:∀(i:Nat) (o:Oper),c<=i->i<d->ops[i]?=some o->kN G o.op=true
 wr:∀(o:Oper),ops[d]?=some o->kN G o.op=false
 closed:∀j,du j=true->∀(o:Oper),ops[j]?=some o->∀e∈o.after,Region.binds .any e=true->du e.on=true
 size:N<=a.tmps.size
 defers:lK w0.heap.size w a.defers
 fw:c0.base<=w0.heap.size
 gp:∀r row,c0.R r=some row->r<M
 ctx:∃(cx:Ctx) (B:Nat->Nat),Mem cx w/\(∀r,cx.R r=ki s du c (d-c) r)/\(∀t,(∀k o,k<c->du k=false->ops[k]?=some o->o.dst≠some t)->(∀k o,d<=k->du k=true->ops[k]?=some o->o.dst≠some t)->Rep cx w (iX ops s val du c (d-c) t) (a.tmps.getD t undef))/\wK c0 w0 cx w/\
  (∀i,d<=i->du i=true->L2 P ops s val w0 cx w a i (B i))/\(∀i j,d<=i->d<=j->du i=true->du j=true->B i=B j->i=j)
theorem UC{c':Ctx}{w':World}{a:Act}{o:Oper}{t:Nat}{d:D}{v:Value}{N:Nat}(hs:N<=a.tmps.size)(hd:∀u,o.dst=some u->u<N)(h1:o.dst=some t->Rep c' w' d v)(h2:o.dst≠some t->Rep c' w' d (a.tmps.getD t undef)):Rep c' w' d ((a.put o.dst v).tmps.getD t undef):=by
 cases ho:o.dst with
 |none=>simpa[Act.put]using h2 (by rw[ho];simp)
 |some u=>
  by_cases e:u=t
  ·subst e
   have hu:u<a.tmps.size:=bM (hd u ho) hs
   simpa[Act.put,aY,hu]using h1 ho
  ·have:=h2 (by rw[ho];intro h;exact e (Option.some.inj h))
   simpa[Act.put,aZ e]using this
theorem P9{P:Program}{G:List ba}{N M:Nat}{ops:Array Oper}{s:Nat->St}{ks:Nat->List Nat}{val:Nat->D}(hc:UB P G N M ops s ks val){c0:Ctx}{w0 w:World}{du:Nat->Bool}{a:Act}{c d:Nat}
 (hq:∀(i:Nat) (o:Oper),c<=i->i<d->ops[i]?=some o->kN G o.op=true) (hd:d<=ops.size)
 (h:∃(cx:Ctx) (B:Nat->Nat),Mem cx w/\(∀r,cx.R r=(s c).rows.getD r none)/\(∀t,(∀k o,k<c->du k=false->ops[k]?=some o->o.dst≠some t)->(∀k o,c<=k->du k=true->ops[k]?=some o->o.dst≠some t)->Rep cx w (look (s c).env t) (a.tmps.getD t undef))/\wK c0 w0 cx w/\
  (∀i,c<=i->du i=true->L2 P ops s val w0 cx w a i (B i))/\(∀i j,c<=i->c<=j->du i=true->du j=true->B i=B j->i=j)):
 ∀ n,c+n<=d->∃(cx:Ctx) (B:Nat->Nat),Mem cx w/\(∀r,cx.R r=ki s du c n r)/\(∀t,(∀k o,k<c->du k=false->ops[k]?=some o->o.dst≠some t)->(∀k o,c+n<=k->du k=true->ops[k]?=some o->o.dst≠some t)->Rep cx w (iX ops s val du c n t) (a.tmps.getD t undef))/\wK c0 w0 cx w/\
  (∀i,c+n<=i->du i=true->L2 P ops s val w0 cx w a i (B i))/\(∀i j,c+n<=i->c+n<=j->du i=true->du j=true->B i=B j->i=j):=by
 have hlen:∀k l,c<=k->k<=l->l<=d->(s k).rows.length<=(s l).rows.length:=λk l h1 h2 h3=>JM hc.toChain hq hd h1 h2 h3
 have QA:∀n,c+n<=d->∀r,(s (c+n)).rows.length<=r->ki s du c n r=none:=by
  intro n
  induction n with
  |zero=>intro _ r hr;simp only[ki];simp only[aB]at hr;rw[aV,aJ hr];rfl
  |succ n ih=>
   intro hn r hr
   simp only[ki]
   have:=hlen (c+n) (c+n+1) (by omega) (by omega) (by omega)
   rw[show c+(n+1)=c+n+1 by omega]at hr
   rw[if_neg (by omega)]
   exact ih (by omega) r (by omega)
 intro n
 induction n with
 |zero=>intro _;simpa only[ki,iX,aB]using h
 |succ n ih=>
  intro hn
  obtain⟨cx,B,hm,hR,hE,nP,nD,oj⟩:=ih (by omega)
  cases hl:du (c+n)with
  |false=>
   refine⟨cx,B,hm,λr=>?_,λt ht he=>?_,nP,λi hi GJ=>nD i (by omega) GJ,λi j hi hj=>oj i j (by omega) (by omega)⟩
   ·simp only[ki,hl,aA,false_and,if_false];exact hR r
   ·simp only[iX,hl,aA,false_and,if_false]
    refine hE t ht λk o hk ot=>he k o ?_ ot
    by_cases e:k=c+n
    ·rw[e,hl]at ot;cases ot
    ·omega
  |true=>
   obtain⟨o,ty,row,arr,g1,g2,g3,g4,g5,g6,g7,g8,g9⟩:=nD (c+n) (aX _) hl
   have hk:cx.R (s (c+n)).rows.length=none:=by rw[hR];exact QA n (by omega) _ (aX _)
   have hg:=Zj6 (w:=w) hk row (B (c+n))
   refine⟨cx.add (s (c+n)).rows.length row (B (c+n)),B,xau hm hk g4 g7,λr=>?_,λt ht he=>?_,⟨nP.cy.trans hg,nP.fr,nP.ff,λr x hr hv=>?_,nP.xb⟩,λi hi GJ=>?_,λi j hi hj=>oj i j (by omega) (by omega)⟩
   ·simp only[ki,hl,true_and,g6,lA,List.length_singleton]
    by_cases e:r=(s (c+n)).rows.length
    ·subst e
     rw[if_pos ⟨aX _,Nat.lt_succ_self _⟩]
     simp[Ctx.add,aV]
    ·rw[if_neg (by omega)]
     simp only[Ctx.add,if_neg e];exact hR r
   ·simp only[iX,hl,true_and,g1,aW]
    split
    ·rename_i tC
     rw[g8 t tC,g5]
     obtain⟨e,q1,_⟩:=g4.cells
     exact⟨row,(Ctx.iU _ _ _ _).1,by simp[Ctx.add],by rw[q1];simp[ah.l],by simp[(Ctx.iU _ _ _ _).2]⟩
    ·rename_i tC
     refine wM hg (hE t ht λk o' uM ot dy=>?_)
     by_cases e:k=c+n
     ·subst e;rw[g1]at dy;cases dy;exact tC
     ·exact he k o' (by omega) ot dy
   ·by_cases e:r=(s (c+n)).rows.length
    ·right;right
     rw[e];simp only[Ctx.add,if_true];exact g7.jv
    ·have pw:cx.R r=some x:=by simpa[Ctx.add,e]using hr
     have DP:¬cx.V r:=by simpa[Ctx.add,e]using hv
     have:=nP.nU r x pw DP
     simpa only[Ctx.add,if_neg e]using this
   ·obtain⟨o',t',ao,iD,f1,f2,f3,f4,f5,f6,f7,f8,f9⟩:=nD i (by omega) GJ
    refine⟨o',t',ao,iD,f1,f2,f3,f4,f5,f6,⟨f7.jv,f7.lt,f7.here,f7.ff,λr x hr hv e'=>?_⟩,f8,f9⟩
    by_cases e:r=(s (c+n)).rows.length
    ·rw[e]at e'
     simp only[Ctx.add,if_true]at e'
     have:=oj (c+n) i (aX _) (by omega) hl GJ e'
     omega
    ·exact f7.row r x (by simpa[Ctx.add,e]using hr) (by simpa[Ctx.add,e]using hv) (by simpa only[Ctx.add,if_neg e]using e')
section
variable {P:Program} {G:List ba} {N M:Nat} {ops:Array Oper} {s:Nat->St} {ks:Nat->List Nat} {val:Nat->D} (hc:UB P G N M ops s ks val) (lJ:P6 G ops (s ops.size).env=true)
include hc lJ
theorem qy {c0 :Ctx}{w0:World}{du ga:Nat->Bool}{a:Act}{w:World}{c d i:Nat}{o:Oper}(hI:Inv2 P G N M ops s ks val c0 w0 du a w c d)(ho:ops[i]? =some o)(h0:du i=false)(h1:ga i=true)(h2: ∀k,k≠i->ga k=du k)
    (Mz: ∀e∈o.after,Region.binds .any e=true->du e.on=true) {K:Act->World->Prop} {Q:Exit->Act->World->Prop} (hK: ∀a' w' c' d',Inv2 P G N M ops s ks val c0 w0 ga a' w' c' d'->K a' w'):wpOp P ops Q i K a w:=by
  have bg:=(Array.getElem?_eq_some_iff.1 ho).1
  have pN: ∀k,((Region.before ops).getD i 0).testBit k=true->du k=true:=λk hk=>
    RP (ar:=λk=>du k=true) hI.closed (λo' jg=>by rw[ho]at jg;cases jg;exact Mz) hk
  have nO: ∀j k,du j=true->((Region.before ops).getD j 0).testBit k=true->du k=true:=λj k hj hk=>
    RP (ar:=λk=>du k=true) hI.closed (hI.closed j hj) hk
  have tD: ∀j,ga j=true-> ∀(o:Oper),ops[j]? =some o-> ∀e∈o.after,Region.binds .any e=true->ga e.on=true:=by
    intro j hj o' jg e he hb
    have gm:du e.on=true:=by
      by_cases e':j=i
      . subst e';rw[ho]at jg;cases jg;exact Mz e he hb
      . rw[h2 j e']at hj;exact hI.closed j hj o' jg e he hb
    rw[h2 e.on (λe'=>by rw[e',h0]at gm;cases gm)]
    exact gm
  have Dc: ∀{x:Oper} {t:TypeId} {y:Operand},x.op= .load t y->kN G x.op=true:=λh=>by rw[h];rfl
  have hpu: ∀{x:Oper} {env:List (Nat×D)} {q:List Nat},lG env x.op=some q->kN G x.op=true:=λh=>by
    unfold kN;rw[(Z6p (G:=G) h).1];rfl
  have GH: ∀{x:Oper} {t:TypeId},x.op= .alloc t->kN G x.op=true:=λh=>by rw[h];rfl
  obtain⟨cx,B,hm,hR,hE,nP,nD,oj⟩:=hI.ctx
  have EP:du d=false:=by
    cases hl:du d with
    |false=>rfl
    | true=>
      obtain⟨o',t,_,_,g1,_,g3,_⟩:=nD d (aX _) hl
      have:=hI.wr _ g1
      rw[GH g3]at this;cases this
  have hid:i<=d\/(d<i/\(∃t,o.guard=none/\o.op= .alloc t)/\ ∀u,o.dst=some u-> ∀k o',k≠i->ops[k]? =some o'->o'.dst≠some u):=by
    by_cases h:i<=d
    . exact .inl h
    . right
      have Bg:ops[d]? =some ops[d]:=aU (by omega)
      have:=(Fj lJ (show d<i by omega) Bg ho).2
      rcases this with⟨hq,_⟩|hb|hb|hb
      . rw[hI.wr _ Bg]at hq;cases hq
      . have:=pN d hb
        rw[EP]at this;cases this
      . rcases P4 Bg ho hb with⟨t,b,t',b',z,r,r',ii,off,lO,iE,g1,g2,g3,_⟩|⟨q,g1,g2,g3,_⟩|⟨q,g1,g3,_⟩|⟨_,_,_,_,_,_,_,_,_,g1,g2,g3,_⟩|⟨_,_,_,_,_,_,_,_,g1,g2,g3,_⟩
        . have:=Dc g3
          rw[hI.wr _ Bg]at this;cases this
        . have:=hpu g3
          rw[hI.wr _ Bg]at this;cases this
        . have:=hpu (UA (env:=[]) g3)
          rw[hI.wr _ Bg]at this;cases this
        . have:=Dc g3
          rw[hI.wr _ Bg]at this;cases this
        . have:=Dc g3
          rw[hI.wr _ Bg]at this;cases this
      . exact⟨by omega,hb⟩
  have VF:=hI.cd
  have Hx:=hI.dn
  have jc:cx.base<=w.heap.size:=by rw[nP.cy.base];exact Nat.le_trans hI.fw nP.fr.size
  have seen: ∀k o' t,k<i->ops[k]? =some o'->o'.dst=some t->t∈o.looksAt ops->du k=true:=by
    intro k o' t hk jg hd ht
    rcases(Fj lJ hk jg ho).1 with tE|hb
    . exact((FE tE).2.1 hd ht).elim
    . exact pN _ hb
  have CM: ∀k o' t,d<=k->du k=true->ops[k]? =some o'->t∈o.looksAt ops->i<=d->o'.dst≠some t:=by
    intro k o' t hk hl jg ht hid hd
    have nQ:i<k:=by
      by_cases e:k=i
      . rw[e,h0]at hl;cases hl
      . omega
    rcases(Fj lJ nQ ho jg).1 with tE|hb
    . exact(FE tE).2.2 hd ht
    . have:=nO _ _ hl hb
      rw[h0]at this;cases this
  rcases hid with hid|⟨hdi,⟨t0,ZC,ho0⟩,JR⟩
  rotate_left
  ·
    obtain⟨hks,row,arr,hA,hv,dc⟩:=(hc.mh i o ho).al t0 ZC ho0
    unfold wpOp
    simp only[ho]
    have hw:Region.wanted o (yielded ops a.tmps)=true:=by simp [Region.wanted,ZC]
    rw[if_pos hw]
    refine FO (hA.run a.eval w) ?_
    have hmn:=Zsd hm (.cells arr row.ty)
    have uU:=ZA hm (.cells arr row.ty)
    have hn:jE [] cx w cx (w.alloc (.cells arr row.ty)):=lu.toK ⟨hmn,uU,Fr.alloc _ w _,λb hb=> .inl hb,λr row hr v=> .inl ⟨⟨row,hr⟩,v,rfl⟩⟩
    refine hK _ _ c d ⟨hI.cd,hI.dn,λk hk=>by rw[h2 k (by omega)];exact hI.pre k hk,hI.quiet,hI.wr,tD,?_,?_,hI.fw,hI.gp,cx,λk=>if k=i then w.heap.size else B k,hmn,λr=> ?_,λt ht he=> ?_,nP.step (ks:=[]) (λk hk=>by simp [cv]at hk) hI.gp hn,λk hdk hl=> ?_,λk j hk hj ot Hf e=> ?_⟩
    . cases hd:o.dst<;>simp [Act.put]<;>exact hI.size
    . first|exact lK.put (hI.defers.step hm hn.fr)|exact lK.put (hI.defers.step hm hn.toW.fr)
    . rw[hR,RW (λk hk=>h2 _ (by omega))]
    . rw[RV (λk hk=>h2 _ (by omega))]
      refine UC hI.size (λu=>hc.dst i o u ho) (λhd=>(he i o (by omega) h1 ho hd).elim) (λhd=> ?_)
      exact wM uU (hE t (λk o' hk hl dy=>ht k o' hk (by rw[h2 k (by omega)];exact hl) dy) (λk o' hk hl dy=>he k o' hk (by rw[h2 k (λe'=>by rw[e',h0]at hl;cases hl)];exact hl) dy))
    . by_cases e:k=i
      . subst e
        simp only[if_true]
        exact⟨o,t0,row,arr,ho,ZC,ho0,hA,hv,dc,⟨nP.fr.size,by rw[ZB];omega,TZ w _,λhb=>by have:=(hm.ff _ hb).1;omega,λr ao hr DP e=>by have:=hm.lt hr DP;omega⟩,λu hu=>xV hu (bM (hc.dst k o u ho hu) hI.size),JR⟩
      . simp only[if_neg e]
        rw[h2 k e]at hl
        exact(nD k hdk hl).dv hn (Ne.symm e) ho
    . have key: ∀k,d<=k->ga k=true->k≠i->B k<w.heap.size:=λk hk ot e=>by
        rw[h2 k e]at ot
        obtain⟨_,_,_,_,_,_,_,_,_,_,g7,_⟩:=nD k hk ot
        exact g7.lt
      by_cases e1:k=i<;>by_cases e2:j=i
      . rw[e1,e2]
      . simp only[if_pos e1,if_neg e2]at e
        have:=key j hj Hf e2;omega
      . simp only[if_neg e1,if_pos e2]at e
        have:=key k hk ot e1;omega
      . simp only[if_neg e1,if_neg e2]at e
        exact oj k j hk hj (by rw[<-h2 k e1];exact ot) (by rw[<-h2 j e2];exact Hf) e
  by_cases px:c<=i
  . by_cases e:i=d
    ·
      subst e
      have iJ: ∀k o',c<=k->k<i->ops[k]? =some o'->du k=true\/L1 G ops (s ops.size).env k i=true:=λk o' mQ ri dy=>by
        rcases(Fj lJ ri dy ho).2 with⟨_,hq⟩|hb|hb|⟨⟨t4,_,g4⟩,_⟩
        . rw[hI.wr _ ho]at hq;cases hq
        . exact .inl (pN _ hb)
        . exact .inr hb
        . have:=hI.wr _ ho
          rw[GH g4]at this;cases this
      have hnr: ∀k o',c<=k->k<i->ops[k]? =some o'->L1 G ops (s ops.size).env k i=true->(s (k+1)).rows=(s k).rows:=λk o' mQ ri dy hb=>by
        rcases P4 dy ho hb with⟨t,b,t',b',z,r,r',ii,off,lO,iE,g1,g2,g3,g4,g5,g6,g7,g8,g9⟩|⟨q,g1,g2,g3,g4,_⟩|⟨q,g1,g3,_⟩|⟨t,b,r,ii,off,_,_,_,_,g1,g2,g3,g5,g7,_⟩|⟨t,b,r,ii,off,_,_,_,g1,g2,g3,g5,g7,_⟩
        . exact((hc.mh k o' dy).ld t b r ii off g1 g3 (DK hc g5 g7 (aX _) (by omega))).2.1
        . exact((hc.mh k o' dy).pu q g1 (Zoh hc g3 g4 (aX _) (by omega))).2.1
        . exact((hc.mh k o' dy).pu q g1 (UA g3)).2.1
        . exact((hc.mh k o' dy).ld t b r ii off g1 g3 (DK hc g5 g7 (aX _) (by omega))).2.1
        . exact((hc.mh k o' dy).ld t b r ii off g1 g3 (DK hc g5 g7 (aX _) (by omega))).2.1
      have dc: ∀r,cx.R r=(s i).rows.getD r none:=λr=>by
        rw[hR,Zaq hc hI.quiet Hx (by omega) (λk hk=>by
          have dy:ops[c+k]? =some ops[c+k]:=aU (by omega)
          rcases iJ (c+k) _ (by omega) (by omega) dy with h|h
          . exact .inl h
          . exact .inr (hnr (c+k) _ (by omega) (by omega) dy h)),show c+(i-c)=i by omega]
      have sJ: ∀t,(∀k o',k<i->du k=false->ops[k]? =some o'->o'.dst≠some t)->(∀k o',i<=k->du k=true->ops[k]? =some o'->o'.dst≠some t)->Rep cx w (look (s i).env t) (a.tmps.getD t undef):=λt ht he=>by
        have:=hE t (λk o' hk=>ht k o' (by omega)) he
        rwa [Zja hc hI.quiet Hx (by omega) (λk o' hk dy hd=>by
          cases hl:du (c+k) with
          |true=>rfl
          |false=>exact(ht _ _ (by omega) hl dy hd).elim),show c+(i-c)=i by omega]at this
      refine zau (M:=M) ho hm jc dc (λt ht=>sJ t (λk o' hk hl dy hd=>by rw[seen k o' t hk dy hd ht]at hl;cases hl) (λk o' hk hl dy=>CM k o' t hk hl dy ht (aX _))) (hc.op i o ho) λv w' c' hM hn jT hv=> ?_
      obtain⟨d',g1,g2,g3,g4⟩:=My G ops _ (i+1) rfl (by omega)
      have dv: ∀k o' t b r ii off row,k<i->ops[k]? =some o'->du k=false->o'.guard=none->o'.op= .load t (.tmp b)->kL ops k b=true->look (s ops.size).env b= .ptr r ii off->(s i).rows.getD r none=some row->(ks i=[]/\(s (i+1)).rows.getD r none=some row)\/(P7 ops (s ops.size).env k o'/\(s (i+1)).rows.getD r none=some (row.kill (ks i))):=by
        intro k o' t b r ii off row hk dy hl q1 q2 q3 q4 q5
        rcases(Fj lJ hk dy ho).2 with⟨_,hq⟩|hb|hb|⟨⟨t4,_,g4⟩,_⟩
        rotate_right
        . have:=hI.wr _ ho
          rw[GH g4]at this;cases this
        . rw[hI.wr _ ho]at hq;cases hq
        . rw[pN _ hb]at hl;cases hl
        . rcases P4 dy ho hb with⟨t1,b1,t',b',z,r1,r',QB,CN,lO,iE,p1,p2,p3,p4,p5,p6,p7,p8,p9⟩|⟨q,p1,p2,p3,_⟩|⟨q,p1,p3,_⟩|⟨t1,b1,r1,QB,CN,args,dk,x0,l0,p1,p2,p3,p4,p5,p6,p7,p8,p9⟩|⟨t1,b1,r1,QB,CN,args,dk,td,p1,p2,p3,p4,p5,p6,p7,p8,p9⟩
          . rw[q2]at p3;cases p3
            rw[q4]at p7;cases p7
            obtain⟨f1,f2⟩:=(hc.mh i o ho).st t' b' z r' lO iE p2 p4 (DK hc p6 p8 (by omega) (by omega))
            exact .inl ⟨f1,by rw[f2 r p9];exact q5⟩
          . rw[q2]at p3;simp [lG,pj,cj,q4]at p3
          . rw[q2]at p3;cases p3
          . obtain⟨f1,f2⟩:=(hc.mh i o ho).ap args dk x0 l0 p2 p6 p7 (by rw[DL hc p8 (Zeq p9) (by omega) (by omega)];exact p9)
            exact .inl ⟨f1,f2 r row q5⟩
          . refine .inr ⟨⟨td,p7,p8,p9⟩,(hc.mh i o ho).ap2 args dk p2 p6 r row q5 ?_⟩
            have e1:=DK hc q3 q4 (show k<=i by omega) (by omega)
            have e2:=DK hc q3 q4 (show k<=i+1 by omega) (by omega)
            rw[hc.env i o b ho,if_neg (Jl q3 (by omega) ho),Br,e1]at e2
            cases hb:cv r (ks i) with
            |false=>rfl
            |true=>simp [D.gl,D.kill,D.ee,hb]at e2
      have Hg: ∀k o' q,k<i->ops[k]? =some o'->du k=false->lG (s ops.size).env o'.op=some q->ks i=[]\/Jm ops (s ops.size).env k o' q:=by
        intro k o' q hk dy hl hq
        rcases(Fj lJ hk dy ho).2 with⟨_,Fi⟩|hb|hb|⟨⟨t4,_,g4⟩,_⟩
        rotate_right
        . have:=hI.wr _ ho
          rw[GH g4]at this;cases this
        . rw[hI.wr _ ho]at Fi;cases Fi
        . rw[pN _ hb]at hl;cases hl
        . rcases P4 dy ho hb with⟨t1,b1,t',b',z,r1,r',QB,CN,lO,iE,p1,p2,p3,p4,p5,p6,p7,p8⟩|⟨q,p1,p2,p3,p4,p5⟩|⟨q',p1,p3,p4⟩|⟨t1,b1,r1,QB,CN,args,dk,x0,l0,p1,p2,p3,p4,p5,_⟩|⟨t1,b1,r1,QB,CN,args,dk,td,p1,p2,p3,p4,p5,_⟩
          rotate_right
          . rw[p3]at hq;simp [lG,pj,cj,p5]at hq
          rotate_right
          . rw[p3]at hq;simp [lG,pj,cj,p5]at hq
          . rw[p3]at hq;simp [lG,pj,cj,p7]at hq
          . rcases p5 with⟨t',b',z,r',lO,iE,p5,p6,p7⟩|⟨f,args,dk,p5,p6⟩
            . exact .inl ((hc.mh i o ho).st t' b' z r' lO iE p2 p5 (DK hc p6 p7 (by omega) (by omega))).1
            . exact .inl ((hc.mh i o ho).cl f args dk p2 p5 p6)
          . rw[UA p3]at hq;cases hq
            exact .inr p4
      have Fl: ∀k,c<=k->k<i->ks k=[]:=λk mQ ri=>by
        have dy:ops[k]? =some ops[k]:=aU (by omega)
        exact(Vv (hc.op k _ dy) (hI.quiet k _ mQ ri dy)).1
      have QC: ∀t,(∀k o,k<i+1->ga k=false->ops[k]? =some o->o.dst≠some t)->(∀k o,i+1<=k->ga k=true->ops[k]? =some o->o.dst≠some t)->Rep c' w' (look (s (i+1)).env t) ((a.put o.dst v).tmps.getD t undef):=by
        intro t ht he
        rw[hc.env i o t ho]
        refine UC hI.size (λu=>hc.dst i o u ho) (λhd=>by rw[if_pos hd];exact hv) (λhd=> ?_)
        rw[if_neg hd,Br]
        refine wM hn.cy (VR (sJ t (λk o' hk hl dy=> ?_) (λk o' hk hl dy=> ?_)))
        . exact ht k o' (by omega) (by rw[h2 k (by omega)];exact hl) dy
        . have gm:k≠i:=λe'=>by rw[e',h0]at hl;cases hl
          exact he k o' (by omega) (by rw[h2 k gm];exact hl) dy
      refine hK _ w' (i+1) d' ⟨g1,g2,λk hk=> ?_,g3,g4,tD,?_,?_,hI.fw,hI.gp,by
        have:=P9 hc (c0:=c0) (w0:=w0) (w:=w') (du:=ga) (a:=a.put o.dst v) (c:=i+1) (d:=d') g3 g2 ⟨c',B,hn.mem,jT,QC,nP.step hM hI.gp hn,λk hk ot=>(nD k (by omega) (by rw[<-h2 k (by omega)];exact ot)).dv hn (by omega) ho,λk j hk hj ot Hf e=>oj k j (by omega) (by omega) (by rw[<-h2 k (by omega)];exact ot) (by rw[<-h2 j (by omega)];exact Hf) e⟩ (d'-(i+1)) (by omega)
        rwa [show i+1+(d'-(i+1))=d' by omega]at this⟩
      . by_cases e' : k=i
        . rw[e'];exact .inl h1
        . rw [h2 k e']
          cases hl:du k with
          |true=>exact .inl rfl
          | false =>
            right
            by_cases Vy:k<c
            . rcases hI.pre k Vy with h|h
              . rw[hl]at h;cases h
              . rcases h with h|⟨o',q,q1,q2,q3,q4,q8⟩
                rotate_left
                . rcases q8 with q8|q8
                  rotate_left
                  . exact .inr ⟨o',q,q1,q2,q3,q4, .inr q8⟩
                  rcases Hg k o' q (by omega) q1 hl q3 with f1|f1
                  rotate_left
                  . exact .inr ⟨o',q,q1,q2,q3,q4, .inr f1⟩
                  refine .inr ⟨o',q,q1,q2,q3,q4, .inl λk' mQ ri=> ?_⟩
                  by_cases JT:k'<c
                  . exact q8 k' mQ JT
                  . by_cases Du:k'<i
                    . exact Fl k' (by omega) Du
                    . rw[show k'=i by omega];exact f1
                obtain⟨o',t,b,r,ii,off,row,ao,q1,q2,q3,q4,q5,q6,q7,q8⟩:=h
                have pY:r<(s c).rows.length:=by
                  by_cases hh:r<(s c).rows.length
                  . exact hh
                  . simp only[aV,aJ (show(s c).rows.length<=r by omega)]at q7;cases q7
                have iz:=JN hc.toChain hI.quiet Hx (aX c) px (aX i) pY
                rcases dv k o' t b r ii off ao (by omega) q1 hl q2 q3 q4 q5 (by rw[iz];exact q7) with⟨f1,f2⟩|⟨f1,f2⟩
                . rcases q8 with⟨e8,q8⟩|q8
                  . refine .inl ⟨o',t,b,r,ii,off,row,ao,q1,q2,q3,q4,q5,q6,f2, .inl ⟨e8,λk' mQ ri=> ?_⟩⟩
                    by_cases JT:k'<c
                    . exact q8 k' mQ JT
                    . by_cases Du:k'<i
                      . exact Fl k' (by omega) Du
                      . rw[show k'=i by omega];exact f1
                  . exact .inl ⟨o',t,b,r,ii,off,row,ao,q1,q2,q3,q4,q5,q6,f2, .inr ⟨q8.1,q8.2.elim λL hL=>⟨L,hL.1,λkk hk=>(hL.2 kk hk).elim λj hj=>⟨j,hj.1,by omega,hj.2.2⟩⟩⟩⟩
                . refine .inl ⟨o',t,b,r,ii,off,row,_,q1,q2,q3,q4,q5,q6,f2, .inr ⟨f1,?_⟩⟩
                  rcases q8 with⟨e8,_⟩|⟨_,L,e8,hL⟩
                  . exact⟨[ks i],by rw[e8];rfl,λkk hk=>⟨i,by omega,by omega,List.mem_singleton.1 hk⟩⟩
                  . refine⟨L++[ks i],by rw[List.foldl_append,<-e8];rfl,λkk hk=> ?_⟩
                    rcases List.mem_append.1 hk with hk|hk
                    . obtain⟨j,j1,j2,j3⟩:=hL kk hk
                      exact⟨j,j1,by omega,j3⟩
                    . exact⟨i,by omega,by omega,List.mem_singleton.1 hk⟩
            . have dy:ops[k]? =some ops[k]:=aU (by omega)
              rcases iJ k _ (by omega) (by omega) dy with h|h
              . rw[hl]at h;cases h
              . have go: ∀t b r ii off,ops[k].guard=none->ops[k].op= .load t (.tmp b)->kL ops k b=true->look (s ops.size).env b= .ptr r ii off->P8 ops s ks k (i+1):=by
                  intro t b r ii off p1 p3 p5 p7
                  obtain⟨row,cz⟩:=((hc.mh k _ dy).ld t b r ii off p1 p3 (DK hc p5 p7 (aX _) (by omega))).2.2.1
                  have pY:r<(s k).rows.length:=by
                    by_cases hh:r<(s k).rows.length
                    . exact hh
                    . simp only[aV,aJ (show(s k).rows.length<=r by omega)]at cz;cases cz
                  have iz:=JN hc.toChain hI.quiet Hx (show c<=k by omega) (show k<=i by omega) (aX i) pY
                  rcases dv k _ t b r ii off row (by omega) dy hl p1 p3 p5 p7 (by rw[iz];exact cz) with⟨f1,f2⟩|⟨f1,f2⟩
                  rotate_left
                  . exact .inl ⟨_,t,b,r,ii,off,row,_,dy,p1,p3,p5,p7,cz,f2, .inr ⟨f1,[ks i],rfl,λkk hk=>⟨i,by omega,by omega,List.mem_singleton.1 hk⟩⟩⟩
                  refine .inl ⟨_,t,b,r,ii,off,row,row,dy,p1,p3,p5,p7,cz,f2, .inl ⟨rfl,λk' mQ ri=> ?_⟩⟩
                  by_cases Du:k'<i
                  . exact Fl k' (by omega) Du
                  . rw[show k'=i by omega];exact f1
                rcases P4 dy ho h with⟨t,b,t',b',z,r,r',ii,off,lO,iE,p1,p2,p3,p4,p5,p6,p7,p8,p9⟩|⟨q,p1,p2,p3,p4,p5⟩|⟨q,p1,p3,p4⟩|⟨t,b,r,ii,off,_,_,_,_,p1,p2,p3,p5,p7,_⟩|⟨t,b,r,ii,off,_,_,_,p1,p2,p3,p5,p7,_⟩
                rotate_right
                . exact go t b r ii off p1 p3 p5 p7
                rotate_left 2
                rotate_left
                . exact go t b r ii off p1 p3 p5 p7
                rotate_right
                . exact .inr ⟨_,q,dy,p1,UA p3,λa ha=>(p4.1 a ha).1, .inr p4⟩
                rotate_left
                . rcases Hg k _ q (by omega) dy hl p3 with f1|f1
                  rotate_left
                  . exact .inr ⟨_,q,dy,p1,p3,p4, .inr f1⟩
                  refine .inr ⟨_,q,dy,p1,p3,p4, .inl λk' mQ ri=> ?_⟩
                  by_cases Du:k'<i
                  . exact Fl k' (by omega) Du
                  . rw[show k'=i by omega];exact f1
                exact go t b r ii off p1 p3 p5 p7
      . cases hd:o.dst<;>simp [Act.put]<;>exact hI.size
      . first|exact lK.put (hI.defers.step hm hn.fr)|exact lK.put (hI.defers.step hm hn.toW.fr)
    ·
      have Hv:i<d:=by omega
      have hq:=hI.quiet i o px Hv ho
      have MA:=Vu hq
      have MB: ∀t∈o.looksAt ops,Rep cx w (look (s i).env t) (a.tmps.getD t undef):=λt ht=>by
        have Hw : ∀n,c+n<=d->iX ops s val du c n t=if c+n<=i then look (s (c+n)).env t else look (s i).env t:=by
          intro n
          induction n with
          |zero=>intro _;simp only[iX,aB];rw[if_pos px]
          | succ n ih=>
            intro hn
            obtain⟨ok,dy⟩: ∃ok,ops[c+n]? =some ok:=⟨_,aU (show c+n<ops.size by omega)⟩
            have ih:=ih (by omega)
            simp only[iX,dy,aW]
            by_cases hk:c+n<i
            . have hA:c+(n+1)<=i:=by omega
              have RX:c+n<=i:=by omega
              rw[if_pos hA,show c+(n+1)=c+n+1 by omega,hc.toChain.DR dy (hI.quiet _ _ (by omega) (by omega) dy) t]
              rw[if_pos RX]at ih
              by_cases hd:ok.dst=some t
              . rw[if_pos ⟨seen _ _ t hk dy hd ht,hd⟩,if_pos hd]
              . rw[if_neg (λg=>hd g.2),if_neg hd,ih]
            . have Hy: ¬(du (c+n)=true/\ok.dst=some t):=by
                rintro⟨g1,g2⟩
                by_cases e':c+n=i
                . rw[e',h0]at g1;cases g1
                . have nQ:i<c+n:=by omega
                  rcases(Fj lJ nQ ho dy).1 with tE|hb
                  . exact(FE tE).2.2 g2 ht
                  . have:=nO _ _ g1 hb
                    rw[h0]at this;cases this
              have hA: ¬c+(n+1)<=i:=by omega
              rw[if_neg Hy,ih,if_neg hA]
              split
              . rw[show c+n=i by omega]
              . rfl
        have:=hE t (λk o' hk hl dy hd=>by rw[seen k o' t (by omega) dy hd ht]at hl;cases hl) (λk o' hk hl dy=>CM k o' t hk hl dy ht hid)
        rw[Hw (d-c) (by omega),if_neg (by omega)]at this
        exact this
      have hlen: ∀k l,c<=k->k<=l->l<=d->(s k).rows.length<=(s l).rows.length:=λk l h1 h2 h3=>JM hc.toChain hI.quiet hI.dn h1 h2 h3
      have iu: ∀k l,c<=k->k<=l->l<=d-> ∀r,r<(s k).rows.length->(s l).rows.getD r none=(s k).rows.getD r none:=λk l h1 h2 h3 r hr=>JN hc.toChain hI.quiet hI.dn h1 h2 h3 hr
      have Bh: ∀n,c+n<=d-> ∀r,r<(s i).rows.length-> ∀row,ki s du c n r=some row->(s i).rows.getD r none=some row:=by
        intro n
        induction n with
        | zero=>
          intro _ r hr row h
          simp only[ki]at h
          by_cases Vz:r<(s c).rows.length
          . rw[iu c i (aX _) px (by omega) r Vz];exact h
          . simp only[aV,aJ (show(s c).rows.length<=r by omega)]at h;cases h
        | succ n ih=>
          intro hn r hr row h
          simp only[ki]at h
          split at h
          . rename_i g
            obtain⟨g1,g2,g3⟩:=g
            have VA:c+n<i:=by
              by_cases mz:c+n<i
              . exact mz
              . by_cases e':c+n=i
                . rw[e',h0]at g1;cases g1
                . have:=hlen i (c+n) px (by omega) (by omega);omega
            rw[iu (c+n+1) i (by omega) (by omega) (by omega) r g3];exact h
          . exact ih (by omega) r hr row h
      have Bi: ∀n,c+n<=d-> ∀r,(s i).rows.length<=r->r<(s (i+1)).rows.length->ki s du c n r=none:=by
        intro n
        induction n with
        | zero=>
          intro _ r h1 h2
          have:=hlen c i (aX _) px (by omega)
          simp only[ki,aV,aJ (show(s c).rows.length<=r by omega),Option.getD_none]
        | succ n ih=>
          intro hn r h1 h2
          simp only[ki]
          rw[if_neg]
          . exact ih (by omega) r h1 h2
          . rintro⟨g1,g2,g3⟩
            by_cases e':c+n=i
            . rw[e',h0]at g1;cases g1
            . by_cases mz:c+n<i
              . have:=hlen (c+n+1) i (by omega) (by omega) (by omega);omega
              . have:=hlen (i+1) (c+n) (by omega) (by omega) (by omega);omega
      have oK:lR cx (s i).rows:=λr row ao g1 g2=>by
        have hr:r<(s i).rows.length:=by
          by_cases h:r<(s i).rows.length
          . exact h
          . simp only[aV,aJ (show(s i).rows.length<=r by omega)]at g2;cases g2
        rw[hR]at g1
        have:=Bh (d-c) (by omega) r hr row g1
        rw[this]at g2;exact Option.some.inj g2
      have fin: ∀v w' c',JL cx w (s i).rows (s (i+1)).rows c' w'->Rep c' w' (val i) v->K (a.put o.dst v) w':=by
        intro v w' c' hn hv
        refine hK _ w' c d ⟨hI.cd,hI.dn,λk hk=>by rw[h2 k (by omega)];exact hI.pre k hk,hI.quiet,hI.wr,tD,?_,?_,hI.fw,hI.gp,c',B,hn.mem,λr=> ?_,λt ht he=> ?_,nP.step (ks:=[]) (λk hk=>by simp [cv]at hk) hI.gp hn.toW.toK,λk hk ot=>(nD k hk (by rw[<-h2 k (by omega)];exact ot)).dv hn.toW.toK (by omega) ho,λk j hk hj ot Hf e=>oj k j hk hj (by rw[<-h2 k (by omega)];exact ot) (by rw[<-h2 j (by omega)];exact Hf) e⟩
        . cases hd:o.dst<;>simp [Act.put]<;>exact hI.size
        . first|exact lK.put (hI.defers.step hm hn.fr)|exact lK.put (hI.defers.step hm hn.toW.fr)
        . rw[hn.rows,hR,Vx px h0 h1 h2 (d:=d) (λk mQ ri=>hlen (i+1) k (by omega) (by omega) (by omega)) (by omega) (by omega)]
        . have hl: ∀k o',i<k->du k=true->ops[k]? =some o'->o'.dst=some t->o.dst=some t->False:=by
            intro k o' nQ hk dy Mr VB
            rcases(Fj lJ nQ ho dy).1 with tE|hb
            . exact(FE tE).1 VB Mr
            . have:=nO _ _ hk hb
              rw[h0]at this;cases this
          rw[Vw ho px h0 h1 h2 hl (by omega)]
          have hold:=wM hn.cy (hE t (λk o' hk hl dy=>ht k o' hk (by rw[h2 k (by omega)];exact hl) dy) (λk o' hk hl dy=>he k o' hk (by rw[h2 k (by omega)];exact hl) dy))
          refine UC hI.size (λu=>hc.dst i o u ho) (λhd=>by rw[if_pos hd];exact hv) (λhd=>by rw[if_neg hd];exact hold)
      have skip:val i= .dw []->(s (i+1)).rows=(s i).rows->K (a.put o.dst undef) w:=λe1 e2=>
        fin undef w cx ⟨hm,iW.refl _ _,Fr.refl _ _,λb hb=> .inl hb,λr=>by rw[e2,if_neg (by omega)],λ_ _=>⟨rfl,Iff.rfl⟩,λr g1 g2=>by rw[e2]at g2;omega⟩ (by rw[e1];exact RY _ _)
      have run:pr P G M o (cj (s i).env) (s i).rows (ks i) (val i) (s (i+1)).rows->o.mU P a w K Q:=λhX=>by
        unfold pr at hX
        rw[MA]at hX
        refine hX.2.2 cx w a hm jc oK (λr g1 g2=>by rw[hR];exact Bi (d-c) (by omega) r g1 g2) (λx hx=> ?_) K Q fin
        cases x with
        | tmp t=>
          refine MB t ?_
          unfold Oper.looksAt
          exact eS _ (List.mem_filterMap.2 ⟨.tmp t,by simpa using hx,rfl⟩)
        | const v=>
          simp only[cj,Act.eval]
          cases hv:FG v with
          |none=>trivial
          |some d=>exact MC hv cx w
        |global g=>trivial
        |func f=>exact JO f
      have hG:=hc.op i o ho
      unfold wpOp
      simp only[ho]
      unfold nj at hG
      cases hg:o.guard with
      | none=>
        simp only[hg]at hG
        have hw:Region.wanted o (yielded ops a.tmps)=true:=by simp [Region.wanted,hg]
        rw[if_pos hw]
        exact run hG
      | some jw=>
        obtain⟨j,want⟩:=jw
        simp only[hg]at hG
        obtain⟨g,g2,hG⟩:=hG
        have hr:=MB g (by
          unfold Oper.looksAt
          refine eX _ ?_
          simp only[hg,g2];simp)
        rcases hG with⟨b,g3,g4⟩|⟨g3,_,e1,e2⟩
        rotate_left
        . rw[g3]at hr
          rw[if_neg (by rw[RZ (o:=o) hg g2 hr];simp)]
          exact skip e1 e2
        rw[g3]at hr
        have hw:=R3 (o:=o) hg g2 hr
        by_cases e':b=want
        . rw[if_pos e']at g4
          rw[if_pos (by rw[hw];simpa using e')]
          exact run g4
        . rw[if_neg e']at g4
          rw[if_neg (by rw[hw];simpa using e')]
          exact skip g4.2.1 g4.2.2
  ·
    have Vr:i<c:=by omega
    rcases hI.pre i Vr with h|h
    . rw[h0]at h;cases h
    have QD: ∀b,kL ops i b=true->(∀k,i<k->k<c->ks k=[])->ks i=[]->look (s c).env b=look (s i).env b:=by
      intro b hb q8 q9
      have: ∀k,i<=k->k<=c->look (s k).env b=look (s i).env b:=by
        intro k
        induction k with
        |zero=>intro h1 _;rw[show i=0 by omega]
        | succ k ih=>
          intro h1 h2
          by_cases e':i=k+1
          . rw[e']
          . have dy:ops[k]? =some ops[k]:=aU (by omega)
            rw[hc.env k _ b dy,if_neg (Jl hb (by omega) dy)]
            by_cases e2:k=i
            . rw[e2,q9,ow]
            . rw[q8 k (by omega) (by omega),ow];exact ih (by omega) (by omega)
      exact this c (by omega) (aX _)
    have og: ∀b,kL ops i b=true->b∈o.looksAt ops->Rep cx w (look (s c).env b) (a.tmps.getD b undef):=λb hnb Yy=>by
      have:=hE b (λk o' hk hl dy hd=>by
        by_cases VA:k<i
        . rw[seen k o' b VA dy hd Yy]at hl;cases hl
        . exact Jl hnb (by omega) dy hd) (λk o' hk hl dy=>CM k o' b hk hl dy Yy hid)
      rwa [Zz hc (λk o' hk dy hd=>(Jl hnb (by omega) dy hd).elim)]at this
    obtain ⟨q2,q8,hN,CH⟩:o.guard=none/\((∀k,i<k->k<c->ks k=[])\/ ∀t,o.dst=some t->kL ops (i+1) t=true/\sK (look (s ops.size).env t)=true)/\pz P o (cj (s c).env) (s c).rows (val i) (s c).rows/\ ∀x∈o.op.operands,Rep cx w (cj (s c).env x) (a.eval x):=by
      rcases h with⟨o',t0,b,r,ii,off,row,ao,q1,q2,q3,q4,q5,q6,q7,q8⟩|⟨o',q,q1,q2,q3,q4,q8⟩
      . rw [ho]at q1;cases q1
        have hpc:look (s c).env b= .ptr r ii off:=DK hc q4 q5 (by omega) (by omega)
        have ZD:look (s i).env b= .ptr r ii off:=DK hc q4 q5 (by omega) (by omega)
        have sM:=(hc.mh i o ho).ld t0 b r ii off q2 q3 ZD
        have ej:cj (s c).env (.tmp b)= .ptr r ii off:=by simp [cj,hpc]
        have q9:((∀k,i<k->k<c->ks k=[])\/ ∀t,o.dst=some t->kL ops (i+1) t=true/\sK (look (s ops.size).env t)=true)/\pz P o (cj (s c).env) (s c).rows (val i) (s c).rows:=by
          rcases q8 with⟨e8,q8⟩|⟨⟨td,d1,d2,d3⟩,L,e8,hL⟩
          . subst e8
            exact⟨.inl q8,sM.2.2.2.1 (cj (s c).env) (s c).rows ej (by rw[q6,q7])⟩
          . refine⟨.inr λt ht=>by rw[d1]at ht;cases ht;exact⟨d2,P3 d3⟩,sM.2.2.2.2 (cj (s c).env) (s c).rows row L ?_ (λkk hk=> ?_) ej q6 (by rw[q7,e8])⟩
            rotate_left
            . obtain⟨j,j1,j2,rfl⟩:=hL kk hk
              have h5:=DL hc d2 (P3 d3) (aX _) (show i+1<=ops.size by omega)
              have h6:=hc.env i o td ho
              rw[if_pos d1,h5]at h6
              have g1:=DL hc d2 (P3 d3) (show i+1<=j by omega) (show j<=ops.size by omega)
              have g2:=DL hc d2 (P3 d3) (show i+1<=j+1 by omega) (show j+1<=ops.size by omega)
              have dy:ops[j]? =some ops[j]:=aU (by omega)
              rw[hc.env j _ td dy,if_neg (Jl d2 (by omega) dy),Br,g1,Zqi d3]at g2
              rw[<-h6];exact g2
            have h5:=DL hc d2 (P3 d3) (aX _) (show i+1<=ops.size by omega)
            have h6:=hc.env i o td ho
            rw[if_pos d1]at h6
            rw[<-h6,h5];exact d3
        refine⟨q2,q9.1,q9.2,λx hx=> ?_⟩
        have jD:x= .tmp b:=by simpa [q3,Op.operands] using hx
        rw[jD]
        refine og b q4 ?_
        unfold Oper.looksAt
        exact eS _ (List.mem_filterMap.2 ⟨.tmp b,by rw[q3];simp [Op.operands],rfl⟩)
      . rw [ho]at q1;cases q1
        have sM:=(hc.mh i o ho).pu q q2 (Zoh hc q3 q4 (aX _) (by omega))
        refine⟨q2,q8.imp id λg t ht=>⟨(g.2 t ht).1,Y8 (g.2 t ht).2⟩,sM.2.2 (cj (s c).env) (s c).rows (λx hx=> ?_),λy hy=> ?_⟩
        . cases x with
          | tmp b=>
            rcases q8 with q8|q8
            . exact QD b (q4 b (Y7 q3 hx)) q8 sM.1
            . obtain⟨g1,g2⟩:=q8.1 b (Y7 q3 hx)
              show look (s c).env b=look (s i).env b
              rw[DL hc g1 (Y8 g2) (by omega) (by omega),DL hc g1 (Y8 g2) (aX _) (by omega)]
          |_=>rfl
        . cases y with
          | tmp b=>
            refine og b (q4 b (Y7 q3 hy)) ?_
            unfold Oper.looksAt
            exact eS _ (List.mem_filterMap.2 ⟨.tmp b,by simpa using hy,rfl⟩)
          | const v=>
            simp only[cj,Act.eval]
            cases hv:FG v with
            |none=>trivial
            |some d=>exact MC hv cx w
          |global g=>trivial
          |func f=>exact JO f
    have oK:lR cx (s c).rows:=λr' PQ jq g1 g2=>by
      have hr:r'<(s c).rows.length:=by
        by_cases h:r'<(s c).rows.length
        . exact h
        . simp only[aV,aJ (show(s c).rows.length<=r' by omega)]at g2;cases g2
      rw[hR,Zgt hc hI.quiet Hx hr (by omega),g2]at g1
      exact(Option.some.inj g1).symm
    have fin: ∀v w' c',JL cx w (s c).rows (s c).rows c' w'->Rep c' w' (val i) v->K (a.put o.dst v) w':=by
      intro v w' c' hn hv
      refine hK _ w' c d ⟨VF,Hx,λk hk=> ?_,hI.quiet,hI.wr,tD,?_,?_,hI.fw,hI.gp,c',B,hn.mem,λr'=> ?_,λt ht he=> ?_,nP.step (ks:=[]) (λk hk=>by simp [cv]at hk) hI.gp hn.toW.toK,λk hk ot=>(nD k hk (by rw[<-h2 k (by omega)];exact ot)).dv hn.toW.toK (by omega) ho,λk j hk hj ot Hf e=>oj k j hk hj (by rw[<-h2 k (by omega)];exact ot) (by rw[<-h2 j (by omega)];exact Hf) e⟩
      . by_cases e':k=i
        . rw[e'];exact .inl h1
        . rw[h2 k e'];exact hI.pre k hk
      . cases hd:o.dst<;>simp [Act.put]<;>exact hI.size
      . first|exact lK.put (hI.defers.step hm hn.fr)|exact lK.put (hI.defers.step hm hn.toW.fr)
      . rw[hn.rows,hR,if_neg (by omega),RW (λk hk=>h2 _ (by omega))]
      . rw [RV (λk hk=>h2 _ (by omega))]
        refine UC hI.size (λu=>hc.dst i o u ho) (λhd=> ?_) (λhd=> ?_)
        ·
          have mO: ∀k o',i<k->ops[k]? =some o'->o'.dst=some t->du k=false:=λk o' hk dy o7=>by
            cases hl:du k with
            |false=>rfl
            | true=>
              rcases(Fj lJ hk ho dy).1 with tE|hb
              . exact((FE tE).1 hd o7).elim
              . have:=nO _ _ hl hb
                rw[h0]at this;cases this
          have ZE: ∀k o',i<k->k<c->ops[k]? =some o'->o'.dst≠some t:=λk o' mQ ri dy o7=>
            ht k o' ri (by rw[h2 k (by omega)];exact mO k o' mQ dy o7) dy o7
          rw[Zz hc (λk o' hk dy o7=>mO _ o' (by omega) dy o7)]
          have: ∀k,i<k->k<=c->look (s k).env t=val i:=by
            rcases q8 with q8|q8
            rotate_left
            . intro k mQ ri
              obtain⟨g1,g2⟩:=q8 t hd
              have:=hc.env i o t ho
              rw[if_pos hd]at this
              rw[<-this,DL hc g1 g2 (by omega) (by omega),DL hc g1 g2 (aX _) (by omega)]
            intro k
            induction k with
            |zero=>intro h;omega
            | succ k ih=>
              intro mQ ri
              have dy:ops[k]? =some ops[k]:=aU (by omega)
              by_cases e':k=i
              . subst e'
                rw[ho]at dy
                rw[hc.env k o t ho,if_pos hd]
              . rw[hc.env k _ t dy,if_neg (ZE k _ (by omega) (by omega) dy),q8 k (by omega) (by omega),ow]
                exact ih (by omega) (by omega)
          rw[this c Vr (aX _)]
          exact hv
        . refine wM hn.cy (hE t (λk o' hk hl dy o7=> ?_) (λk o' hk hl dy=>he k o' hk (by rw[h2 k (by omega)];exact hl) dy))
          by_cases e':k=i
          . subst e'
            rw[ho]at dy;cases dy
            exact hd o7
          . exact ht k o' hk (by rw[h2 k e'];exact hl) dy o7
    unfold wpOp
    simp only[ho]
    have hw:Region.wanted o (yielded ops a.tmps)=true:=by simp [Region.wanted,q2]
    rw[if_pos hw]
    exact hN.2 cx w a hm jc oK (λr' g1 g2=>by omega) CH K Q fin
theorem Zhf{c0:Ctx}{w0:World}{du:Nat->Bool}{a:Act}{w:World}{c d:Nat}(hI:Inv2 P G N M ops s ks val c0 w0 du a w c d)(iJ:∀i,i<ops.size->du i=true):∃cx,fg N M c0 w0 cx w (s ops.size) a:=by
 obtain⟨cx,B,hm,hR,hE,nP,nD,oj⟩:=hI.ctx
 have hd:d=ops.size:=by
  by_cases h:d<ops.size
  ·obtain⟨o',t,_,_,g1,_,g3,_⟩:=nD d (aX _) (iJ d h)
   have:=hI.wr _ g1
   unfold kN at this
   rw[g3]at this;cases this
  ·have:=hI.dn;omega
 subst hd
 have VF:=hI.cd
 have hl:∀k,k<ops.size-c->du (c+k)=true:=λk hk=>iJ _ (by omega)
 refine⟨cx,hm,λr=>?_,λt=>?_,hI.size,hI.defers,hI.fw,hI.gp,nP⟩
 ·rw[hR,RR hc.toChain hI.quiet hI.dn (by omega) hl,show c+(ops.size-c)=ops.size by omega]
 ·have:=hE t (λk o hk h0 dy=>by rw[iJ k (Array.getElem?_eq_some_iff.1 dy).1]at h0;cases h0) (λk o hk _ dy=>by have:=(Array.getElem?_eq_some_iff.1 dy).1;omega)
  rw[RQ hc.toChain hI.quiet hI.dn (by omega) hl]at this
  rwa [show c+(ops.size-c)=ops.size by omega]at this
theorem xy{c0:Ctx}{w0:World}{Q:Exit->Act->World->Prop}(hQ:∀c w a,fg N M c0 w0 c w (s ops.size) a->Q .normal a w):∀(fuel:Nat) (ar:Array Bool) (a:Act) (w:World) (c d:Nat),ar.size=ops.size->mA (λi=>ar.getD i false) ops.size<=fuel->
 Inv2 P G N M ops s ks val c0 w0 (λi=>ar.getD i false) a w c d->Hz P .any ops Q fuel ar a w:=by
 intro fuel
 have Ay:∀(ar:Array Bool) (i:Nat),ar.size=ops.size->(i∈Region.ready .any ops ar↔ ∃o,ops[i]?=some o/\ar.getD i false=false/\∀e∈o.after,Region.binds .any e=true->ar.getD e.on false=true):=by
  intro ar i fq
  unfold Region.ready
  rw[gM,gN]
  constructor
  ·rintro⟨h1,h2⟩
   have ho:ops[i]?=some ops[i]:=aU h1
   simp only[ho,bA,aR,aE,bB]at h2
   refine⟨_,ho,?_,λe he hb=>?_⟩
   ·have hl:i<ar.size:=by omega
    have:=h2.1
    simpa[aY,hl]using this
   ·have:=Array.all_eq_true'.1 h2.2 e he
    simpa[hb]using this
  ·rintro⟨o,ho,h1,h2⟩
   have bg:=(Array.getElem?_eq_some_iff.1 ho).1
   refine⟨bg,?_⟩
   simp only[ho,bA,aR,aE,bB]
   have hl:i<ar.size:=by omega
   refine⟨by simpa[aY,hl]using h1,Array.all_eq_true'.2 λe he=>?_⟩
   cases hb:Region.binds .any e with
   |false=>rfl
   |true=>simpa[hb]using h2 e he hb
 have j6:∀(ar:Array Bool),ar.size=ops.size->Region.ready .any ops ar=[]->∀i,i<ops.size->ar.getD i false=true:=by
  intro ar fq he i
  induction i using Nat.strongRecOn with
  |_ i ih=>
   intro hi
   cases hl:ar.getD i false with
   |true=>rfl
   |false=>
    exfalso
    have ho:ops[i]?=some ops[i]:=aU hi
    have:i∈Region.ready .any ops ar:=(Ay ar i fq).2 ⟨_,ho,hl,λe wJ hb=>by
     have:=Zjt lJ ho e wJ hb
     exact ih e.on this (by omega)⟩
    rw[he]at this;cases this
 induction fuel with
 |zero=>
  intro ar a w c d fq Bj hI
  have iJ:=VD (du:=λi=>ar.getD i false) (Nat.le_zero.1 Bj)
  refine⟨?_,?_⟩
  ·rw[List.eq_nil_iff_forall_not_mem]
   intro i hi
   obtain⟨o,ho,h1,_⟩:=(Ay ar i fq).1 hi
   have:=iJ i (Array.getElem?_eq_some_iff.1 ho).1
   rw[h1]at this;cases this
  ·obtain⟨cx,hs⟩:=Zhf hc lJ hI iJ
   exact hQ cx w a hs
 |succ fuel ih=>
  intro ar a w c d fq Bj hI
  refine⟨λhe=>?_,λi hi=>?_⟩
  ·obtain⟨cx,hs⟩:=Zhf hc lJ hI (j6 ar fq he)
   exact hQ cx w a hs
  ·obtain⟨o,ho,h1,h2⟩:=(Ay ar i fq).1 hi
   have bg:=(Array.getElem?_eq_some_iff.1 ho).1
   have rQ:(ar.setIfInBounds i true).getD i false=true:=by
    have hl:i<ar.size:=by omega
    simp[aY,hl]
   have rR:∀k,k≠i->(ar.setIfInBounds i true).getD k false=ar.getD k false:=λk hk=>by
    rw[aQ,aZ (Ne.symm hk),<-aQ]
   refine qy hc lJ (ga:=λk=>(ar.setIfInBounds i true).getD k false) hI ho h1 rQ rR h2 λa' w' c' d' VG=>?_
   refine ih _ a' w' c' d' (by simpa using fq) ?_ VG
   have:=VE (du:=λk=>ar.getD k false) (ga:=λk=>(ar.setIfInBounds i true).getD k false) h1 rQ rR bg
   omega
end
theorem Ay{ops:Array Oper}{ar:Array Bool}{i:Nat}(fq:ar.size=ops.size):i∈Region.ready .any ops ar↔ ∃o,ops[i]?=some o/\ar.getD i false=false/\∀e∈o.after,Region.binds .any e=true->ar.getD e.on false=true:=by
 unfold Region.ready
 rw[gM,gN]
 constructor
 ·rintro⟨h1,h2⟩
  have ho:ops[i]?=some ops[i]:=aU h1
  simp only[ho,bA,aR,aE,bB]at h2
  refine⟨_,ho,?_,λe he hb=>?_⟩
  ·have hl:i<ar.size:=by omega
   have:=h2.1
   simpa[aY,hl]using this
  ·have:=Array.all_eq_true'.1 h2.2 e he
   simpa[hb]using this
 ·rintro⟨o,ho,h1,h2⟩
  have bg:=(Array.getElem?_eq_some_iff.1 ho).1
  refine⟨bg,?_⟩
  simp only[ho,bA,aR,aE,bB]
  have hl:i<ar.size:=by omega
  refine⟨by simpa[aY,hl]using h1,Array.all_eq_true'.2 λe he=>?_⟩
  cases hb:Region.binds .any e with
  |false=>rfl
  |true=>simpa[hb]using h2 e he hb
theorem zy{r:Nat}:∀{l:List Nat} {k:Nat},r∉l->pos r l k=k+l.length
 |[],k,_=>rfl
 |x::l,k,h=>by
  simp only[List.mem_cons,not_or]at h
  simp only[pos]
  cases hb:Nat.beq x r with
  |true=>exact(h.1 (bE hb).symm).elim
  |false=>show pos r l (k+1)=_;rw[zy h.2];simp;omega
section
variable {p:List Nat} {ops:Array Oper} (hp:UD p ops.size=true)
include hp
theorem UE:p.length=ops.size/\(∀i,i<ops.size->i∈p)/\(∀i∈p,i<ops.size)/\p.Nodup:=by
 unfold UD at hp
 simp only[aE]at hp
 obtain⟨h1,h2,h3,h4⟩:=hp
 exact⟨bE h1,λi hi=>nG.1 (List.all_eq_true.1 h2 i (List.mem_range.2 hi)),λi hi=>lE (List.all_eq_true.1 h3 i hi),LI.1 h4⟩
theorem Hh{i:Nat}(hi:i<ops.size):pos i p 0<ops.size/\p[pos i p 0]?=some i:=by
 obtain⟨h1,h2,h3,h4⟩:=UE hp
 have:=AS (h2 i hi)
 exact⟨by have:=(List.getElem?_eq_some_iff.1 this).1;omega,this⟩
theorem Zgo{i:Nat}(h:pos i p 0<ops.size):i<ops.size:=by
 obtain⟨h1,h2,h3,h4⟩:=UE hp
 by_cases hm:i∈p
 ·exact h3 i hm
 ·rw[zy hm]at h;omega
theorem ZF:(mZ p ops).size=ops.size:=by
 obtain⟨h1,_⟩:=UE hp
 simp[mZ,h1]
theorem UF{k i:Nat}{o:Oper}(hk:p[k]?=some i)(ho:ops[i]?=some o):(mZ p ops)[k]?=some (L3 p o):=by
 have:ops.getD i default=o:=by
  have bg:=(Array.getElem?_eq_some_iff.1 ho).1
  have:=(Array.getElem?_eq_some_iff.1 ho).2
  simp[aY,bg,this]
 simp[mZ,hk,ho]
theorem Zh4(tmps:Array Value)(j:Nat):yielded (mZ p ops) tmps (pos j p 0)=yielded ops tmps j:=by
 by_cases hj:j<ops.size
 ·have ho:ops[j]?=some ops[j]:=aU hj
  have h1:=UF hp (Hh hp hj).2 ho
  simp only[yielded,h1,ho,aW]
  rfl
 ·have h1:ops[j]?=none:=gO (by omega)
  have h2:(mZ p ops)[pos j p 0]?=none:=by
   refine gO ?_
   rw[ZF hp]
   by_cases h:pos j p 0<ops.size
   ·exact(hj (Zgo hp h)).elim
   ·omega
  simp only[yielded,h1,h2,Option.bind_none]
theorem Zny{o:Oper}(tmps:Array Value):Region.wanted (L3 p o) (yielded (mZ p ops) tmps)=Region.wanted o (yielded ops tmps):=by
 unfold Region.wanted L3
 cases hg:o.guard with
 |none=>rfl
 |some jw=>obtain⟨j,w⟩:=jw;simp only[Zh4 hp]
theorem yy{P:Program}{Q:Exit->Act->World->Prop}{i:Nat}{K K':Act->World->Prop}{a:Act}{w:World}(hi:i<ops.size)(hK:∀a w,K' a w->K a w)(h:wpOp P (mZ p ops) Q (pos i p 0) K' a w):wpOp P ops Q i K a w:=by
 have ho:ops[i]?=some ops[i]:=aU hi
 have h1:=UF hp (Hh hp hi).2 ho
 unfold wpOp at h⊢
 simp only[ho]
 simp only[h1,Zny hp]at h
 split at h
 ·rename_i hw
  rw[if_pos hw]
  exact VQ (Q:=Q) hK h
 ·rename_i hw
  rw[if_neg hw]
  exact hK _ _ h
theorem Zrp{P:Program}{Q:Exit->Act->World->Prop}:∀(fuel:Nat) (ar fc:Array Bool) (a:Act) (w:World),ar.size=ops.size->fc.size=ops.size->(∀i,i<ops.size->fc.getD (pos i p 0) false=ar.getD i false)->
 Hz P .any (mZ p ops) Q fuel fc a w->Hz P .any ops Q fuel ar a w:=by
 have fq:=ZF hp
 obtain⟨f1,f2,f3,f4⟩:=UE hp
 have up:∀(ar fc:Array Bool) (i:Nat),ar.size=ops.size->fc.size=ops.size->(∀i,i<ops.size->fc.getD (pos i p 0) false=ar.getD i false)->i∈Region.ready .any ops ar->i<ops.size/\pos i p 0∈Region.ready .any (mZ p ops) fc:=by
  intro ar fc i h1 h2 h3 hi
  obtain⟨o,ho,g1,g2⟩:=(Ay h1).1 hi
  have bg:=(Array.getElem?_eq_some_iff.1 ho).1
  refine⟨bg,(Ay (by rw[h2,fq])).2 ⟨_,UF hp (Hh hp bg).2 ho,by rw[h3 i bg];exact g1,λe he hb=>?_⟩⟩
  simp only[L3,gP]at he
  obtain⟨e',wJ,rfl⟩:=he
  have:=g2 e' wJ hb
  have JR:e'.on<ops.size:=by
   by_cases h:e'.on<ops.size
   ·exact h
   ·rw[aY,dif_neg (by omega)]at this;cases this
  show fc.getD (pos e'.on p 0) false=true
  rw[h3 _ JR];exact this
 have down:∀(ar fc:Array Bool) (k:Nat),ar.size=ops.size->fc.size=ops.size->(∀i,i<ops.size->fc.getD (pos i p 0) false=ar.getD i false)->k∈Region.ready .any (mZ p ops) fc->∃i,i∈Region.ready .any ops ar:=by
  intro ar fc k h1 h2 h3 hk
  obtain⟨o',jg,g1,g2⟩:=(Ay (by rw[h2,fq])).1 hk
  have bg:=(Array.getElem?_eq_some_iff.1 jg).1
  rw[fq]at bg
  have AT:p[k]?=some p[k]:=List.getElem?_eq_getElem (by omega)
  have hi:=f3 _ (fL AT)
  have ho:ops[p[k]]?=some ops[p[k]]:=aU hi
  have QE:pos p[k] p 0=k:=by
   have:=(Hh hp hi).2
   exact(List.getElem?_inj (by have:=(Hh hp hi).1;omega) f4).1 (this.trans AT.symm)
  have h4:=UF hp AT ho
  rw[jg]at h4;cases h4
  refine⟨p[k],(Ay h1).2 ⟨_,ho,by rw[<-h3 _ hi,QE];exact g1,λe he hb=>?_⟩⟩
  have:=g2 (CO p e) (by simp only[L3,gP];exact⟨e,he,rfl⟩) hb
  have this:fc.getD (pos e.on p 0) false=true:=this
  have JR:pos e.on p 0<ops.size:=by
   by_cases h:pos e.on p 0<ops.size
   ·exact h
   ·rw[aY,dif_neg (by omega)]at this;cases this
  rw[<-h3 _ (Zgo hp JR)];exact this
 intro fuel
 induction fuel with
 |zero=>
  intro ar fc a w h1 h2 h3 h
  refine⟨?_,h.2⟩
  cases hr:Region.ready .any ops ar with
  |nil=>rfl
  |cons i l=>
   have:=(up ar fc i h1 h2 h3 (by rw[hr];simp)).2
   rw[h.1]at this;cases this
 |succ fuel ih=>
  intro ar fc a w h1 h2 h3 h
  refine⟨λhe=>h.1 ?_,λi hi=>?_⟩
  ·cases hr:Region.ready .any (mZ p ops) fc with
   |nil=>rfl
   |cons k l=>
    obtain⟨i,hi⟩:=down ar fc k h1 h2 h3 (by rw[hr];simp)
    rw[he]at hi;cases hi
  ·obtain⟨bg,iz⟩:=up ar fc i h1 h2 h3 hi
   refine yy hp bg (λa' w' hk=>ih _ _ a' w' (by simpa using h1) (by simpa using h2) (λk hk=>?_) hk) (h.2 _ iz)
   have ZD:=(Hh hp bg)
   have AT:=(Hh hp hk)
   have gs:∀(A:Array Bool) (x y:Nat),x<A.size->(A.setIfInBounds x true).getD y false=if x=y then true else A.getD y false:=λA x y hx=>by
    simp only[aQ,Array.getElem?_setIfInBounds]
    split
    ·rename_i e;subst e;simp[hx]
    ·rfl
   rw[gs _ _ _ (by omega),gs _ _ _ (by omega)]
   by_cases e:i=k
   ·subst e;simp
   ·have gm:pos i p 0≠pos k p 0:=λe'=>by
     have:=AT.2
     rw[<-e',ZD.2]at this
     exact e (Option.some.inj this)
    rw[if_neg e,if_neg gm];exact h3 k hk
end
theorem Zl5{ro:Option Nat}{P:Program}(hm:P.follows .mixedOrders=true){T:e7}{G:List ba}{N M id:Nat}{ops:Array Oper}{st:St}{Q:Ex->St->Prop}(hT:jb P T)(hG:jr P G){p:List Nat}(hp:UD p ops.size=true)(h:lI T G N M (mZ p ops) (mZ p ops).toList st λst=>cu (P6 G (mZ p ops) st.env) (Q .normal st)):tF ro P N M (.region id ops true) st Q:=by
 intro c0 w0 c w a hs
 have hs:=hs.drew
 refine Qxx hm ?_
 refine Zrp hp ops.size _ (gE ops.size false) a _ (by simp) (by simp) (λi hi=>by simp[aY,(Hh hp hi).1,hi]) ?_
 obtain⟨s,ks,val,h1,h2,h3,h4,h5,h6⟩:=Zjv hT hG (mZ p ops).toList 0 st (by simp) h
 have hc:UB P G N M (mZ p ops) s ks val:=⟨⟨λi o ho=>h3 i o (bC _) ho,λi o t ho=>h4 i o t (bC _) ho,λi o t ho=>h5 i o t (bC _) ho⟩,λi o ho=>h6 i o (bC _) ho⟩
 have fq:s (0+(mZ p ops).toList.length)=s (mZ p ops).size:=by simp
 rw[fq]at h2
 obtain⟨hd,h2⟩:=de.1 h2
 have kK:=ZF hp
 obtain⟨d,g1,g2,g3,g4⟩:=My G (mZ p ops) _ 0 rfl (bC _)
 have hz:∀i,(gE (mZ p ops).size false).getD i false=false:=λi=>by
  by_cases h:i<(mZ p ops).size
  ·simp[aY,h]
  ·simp[aY,h]
 rw[<-kK]
 refine xy hc hd (Q:=λe a' w'=>∃ex jh c',mC e=some ex/\Q ex jh/\fg N M c0 w0 c' w' jh a') (λc w a iP=>⟨_,_,c,rfl,h2,iP⟩) (mZ p ops).size _ a _ 0 d (by simp) (VC _ _)
  ⟨g1,g2,λi hi=>by omega,g3,g4,λj hj=>by simp[hz]at hj,hs.size,hs.defers,hs.fw,hs.gp,c,λ_=>0,hs.mem,λr=>?_,λt _ _=>?_,hs.reach,λi _ hl=>by simp[hz]at hl,λi j _ _ hl=>by simp[hz]at hl⟩
 ·rw[RU (λi _=>hz _),h1];exact hs.rows r
 ·rw[RS (λi _=>hz _),h1];exact hs.env t
theorem qz{P:Program}(hm:P.follows .mixedOrders=true):pk P:=by
 intro ro T G N M id ops st Q hT hG h
 unfold uz at h
 split at h
 ·rename_i hd
  exact xa hm ro T G N M id ops st Q hT hG hd h
 ·obtain⟨h1,h2⟩:=de.1 h
  exact Zl5 hm hT hG h1 h2
