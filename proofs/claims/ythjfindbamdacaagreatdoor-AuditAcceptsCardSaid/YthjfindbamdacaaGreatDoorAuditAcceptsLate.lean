import Derived.Test.YthjfindbamdacaaGreatDoorAuditAcceptsDraw
open List renaming mem_cons_self->gT,getD->aK,getElem?_eq_none->aM,mem_of_getElem?->fV,mem_append_left->gO,mem_append_right->gN,mem_filter->gW,mem_range->gX
open Array renaming mem_toList_iff->gU,toArray_toList->bS,getElem?_eq_getElem->aJ,getElem?_setIfInBounds_ne->aQ,getD->aP,getD_eq_getD_getElem?->aF,getElem?_eq_none->cL,mem_map->gY,replicate->gK
open Option renaming bind_some->aL,map_some->aR,getD_some->aG
open Bool renaming or_eq_true->aI,false_eq_true->aN,not_eq_true'->aS
open Nat renaming lt_of_lt_of_le->bI,le_refl->aO,add_zero->bG,zero_le->aT
set_option linter.all false
namespace Go.GD
open Go
set_option linter.unusedSectionVars false
variable {G:List bf}{K:D->Rows->Prop}{M N b i j k off r u:Nat}{P:Program}{Q:Exit->Act->World->Prop}{R:Rows}{T:iM}{a:Act}{arr:Array Value}{c c' c0:Ctx}{d:D}{ev:Operand->D}{dr:Nat->Bool}{o x y:Oper}{op:Op}{ops:Array Oper}{pl:Bool}{q:List Nat}{row:Row}{s:Nat->St}{st:St}{t:TypeId}{ti:TI}{ty:tO}{v:Value}{val:Nat->D}{w w' w0:World}
theorem Zaa{K:D->Prop}(h:u6 pl ty d K):∃d',K d'/\∀K2:D->Prop,K2 d'->u6 pl ty d K2:=by
 cases ty<;>simp only[u6]at h⊢
 ·exact⟨_,(db.1 h).2,λK2 h2=>db.2 ⟨(db.1 h).1,h2⟩⟩
 ·exact⟨_,(db.1 h).2,λK2 h2=>db.2 ⟨(db.1 h).1,h2⟩⟩
 ·exact⟨_,(db.1 h).2,λK2 h2=>db.2 ⟨(db.1 h).1,h2⟩⟩
 ·cases pl
  ·simp only[D.cu]at h⊢
   exact⟨_,(db.1 h).2,λK2 h2=>db.2 ⟨(db.1 h).1,h2⟩⟩
  ·exact⟨_,(db.1 h).2,λK2 h2=>db.2 ⟨(db.1 h).1,h2⟩⟩
 ·cases pl
  ·simp only[D.cu]at h⊢
   exact⟨_,(db.1 h).2,λK2 h2=>db.2 ⟨(db.1 h).1,h2⟩⟩
  ·cases d<;>first|exact h.elim|exact⟨_,h,λK2 h2=>h2⟩
theorem Que{pl:Bool}{e:List D}:∀{dh:List tO} {off:Nat} {K:List D->Prop},J4 pl e dh off K->∃ds,K ds/\∀K2:List D->Prop,K2 ds->J4 pl e dh off K2
 |[],off,K,h=>⟨[],h,λK2 h2=>h2⟩
 |t::ts,off,K,h=>by
  simp only[J4]at h⊢
  obtain⟨d,hd,h1⟩:=Zaa h
  obtain⟨ds,EM,h2⟩:=Que hd
  exact⟨_,EM,λK2 hk=>h1 _ (h2 _ hk)⟩
theorem VB{e:List D}{K:D->Prop}(h:Qi pl ti e off K):∃d,K d/\∀K2:D->Prop,K2 d->Qi pl ti e off K2:=by
 unfold Qi at h
 cases hg:ti.kind.isAgg with
 |true=>
  simp only[hg]at h
  obtain⟨ds,h1,h2⟩:=Que h
  exact⟨_,h1,λK2 hk=>by unfold Qi;simp only[hg];exact h2 _ hk⟩
 |false=>
  simp only[hg]at h
  split at h
  ·rename_i y hy
   obtain⟨d,h1,h2⟩:=Zaa h
   exact⟨_,h1,λK2 hk=>by unfold Qi;simp only[hg,hy];exact h2 _ hk⟩
  ·exact h.elim
theorem Zik(h:Ah T t (.ptr r i off) R K):
 ∃d,K d R/\(∃row,R.getD r none=some row)/\∀R2:Rows,R2.getD r none=R.getD r none->Ah T t (.ptr r i off) R2 λd' R'=>d'=d/\R'=R2:=by
 unfold Ah at h
 cases hT:T.get t with
 |none=>simp only[hT]at h
 |some ti=>
  simp only[hT]at h
  cases hr:R.getD r none with
  |none=>simp only[hr]at h
  |some row=>
   obtain⟨box,ty,sz,es⟩:=row
   simp only[hr,db]at h
   obtain⟨h0,h⟩:=h
   obtain⟨d,h1,h2⟩:=VB h
   refine⟨d,h1,?_,λR2 uZ=>?_⟩
   ·exact⟨_,rfl⟩
   ·unfold Ah
    simp only[hT,uZ,db]
    exact⟨h0,h2 _ (by simp)⟩
theorem Zrs(h:pQ d=true)(ks:List Nat):d.gr ks=d.ez ks:=by cases d<;>first|rfl|cases h
theorem Zqu{d d':D}{ks:List Nat}(h:u6 pl ty d λx=>x=d')(hd:d'.ez ks=d'):d.ez ks=d:=by
 cases ty<;>simp only[u6]at h
 ·cases d<;>first|rfl|(simp[D.isInt,db]at h;done)
 ·cases d<;>first|rfl|(simp[D.isBool,db]at h;done)
 ·cases d<;>first|rfl|(simp[D.isStr,db]at h;done)
 ·cases pl
  ·simp only[D.cu,db]at h
   rw[h.2];exact hd
  ·simp only[db]at h
   cases d<;>first|rfl|(simp[D.Gc,db]at h;done)
 ·cases pl
  ·simp only[D.cu,db]at h
   rw[h.2];exact hd
  ·cases d<;>first|exact h.elim|rfl
theorem Zbv{ks:List Nat}:∀{l:List D} {j:Nat},(D.kI ks l).getD j .dead=(l.getD j .dead).ez ks
 |[],_=>rfl
 |_::_,0=>rfl
 |_::l,j+1=>Zbv (l:=l) (j:=j)
theorem Zm5(ks:List Nat)(row:Row)(i off:Nat):((row.kill ks).es.get i).getD off .dead=(row.es.get i).getD off .dead\/((row.kill ks).es.get i).getD off .dead=((row.es.get i).getD off .dead).ez ks:=by
 unfold Row.kill
 split
 ·rename_i ty sz e
  cases i with
  |zero=>exact .inr Zbv
  |succ i=>exact .inl rfl
 ·exact .inl rfl
theorem Zl9{v:D}{ks:List Nat}(h:Qi pl ti (row.es.get i) off λx=>x=v)(hv:pQ v=true)(hk:v.ez ks=v):Qi pl ti ((row.kill ks).es.get i) off λx=>x=v:=by
 unfold Qi at h⊢
 cases hg:ti.kind.isAgg with
 |true=>
  simp only[hg]at h
  obtain⟨ds,h1,_⟩:=Que h
  rw[<-h1]at hv;cases hv
 |false=>
  simp only[hg]at h⊢
  split at h
  ·rename_i y hy
   have e:((row.kill ks).es.get i).getD off .dead=(row.es.get i).getD off .dead:=by
    rcases Zm5 ks row i off with e|e
    ·exact e
    ·rw[e];exact Zqu h hk
   rw[e];exact h
  ·exact h.elim
theorem Z05{pl:Bool}{ti:TI}{i off:Nat}{v:D}(hv:pQ v=true):∀{L:List (List Nat)} {row:Row},(∀kk∈L,v.ez kk=v)->(Qi pl ti (row.es.get i) off λx=>x=v)->Qi pl ti ((L.foldl (λr k=>Row.kill k r) row).es.get i) off λx=>x=v
 |[],_,_,h=>h
 |k::L,row,hL,h=>Z05 hv (L:=L) (row:=row.kill k) (λkk hk=>hL kk (List.mem_cons_of_mem _ hk)) (Zl9 h hv (hL k (gT ..)))
theorem Z6q:∀(L:List (List Nat)) (row:Row),(L.foldl (λr k=>Row.kill k r) row).box=row.box/\(L.foldl (λr k=>Row.kill k r) row).sz=row.sz
 |[],_=>⟨rfl,rfl⟩
 |k::L,row=>by
  obtain⟨k1,k2,k3,k4⟩:=wJ k row
  obtain⟨h1,h2⟩:=Z6q L (row.kill k)
  exact⟨h1.trans k1,h2.trans k3⟩
theorem Zt3{R R2:Rows}{v:D}{L:List (List Nat)}(h:Ah T t (.ptr r i off) R λd' R'=>d'=v/\R'=R)(hv:pQ v=true)(hL:∀kk∈L,v.ez kk=v)(hr:R.getD r none=some row)(uZ:R2.getD r none=some (L.foldl (λr k=>Row.kill k r) row)):
 Ah T t (.ptr r i off) R2 λd' R'=>d'=v/\R'=R2:=by
 obtain⟨s1,s2⟩:=Z6q L row
 unfold Ah at h⊢
 cases hT:T.get t with
 |none=>simp only[hT]at h
 |some ti=>
  simp only[hT,hr]at h
  simp only[hT,uZ]
  obtain⟨box,ty,sz,es⟩:=row
  simp only at h s1 s2
  generalize cq:L.foldl (λr k=>Row.kill k r) (⟨box,ty,sz,es⟩:Row)=jC at s1 s2⊢
  obtain⟨Rw,ty2,sz2,es2⟩:=jC
  simp only at s1 s2⊢
  subst s1;subst s2
  simp only[db]at h⊢
  refine⟨h.1,?_⟩
  have hx:Qi (!Rw) ti (es.get i) off λx=>x=v:=by
   obtain⟨d,h1,h2⟩:=VB h.2
   exact h2 _ h1.1
  have:=Z05 (L:=L) (row:=⟨Rw,ty,sz2,es⟩) hv hL hx
  rw[cq]at this
  obtain⟨d,h1,h2⟩:=VB this
  exact h2 _ ⟨h1,by first|trivial|rfl⟩
theorem Zft(h:Qp T t (.ptr r i off) d R K):
 ∃R',K .dead R'/\(∀r',r'≠r->R'.getD r' none=R.getD r' none)/\Qp T t (.ptr r i off) d R λd' R2=>d'=.dead/\R2=R':=by
 unfold Qp at h
 cases hT:T.get t with
 |none=>simp only[hT]at h
 |some ti=>
  simp only[hT]at h
  cases hr:R.getD r none with
  |none=>simp only[hr]at h
  |some row=>
   obtain⟨box,ty,sz,es⟩:=row
   simp only[hr,db]at h
   obtain⟨h0,h⟩:=h
   have rF:∀(x:Option Row) (r':Nat),r'≠r->(R.set r x).getD r' none=R.getD r' none:=λx r' h=>by
    simp only[aK,List.getElem?_set_ne (Ne.symm h)]
   cases box with
   |true=>
    simp only[D.fp,ny]at h
    refine⟨_,h,rF _,?_⟩
    unfold Qp
    simp only[hT,hr,db,D.fp,ny]
    exact⟨h0,by simp⟩
   |false=>
    simp only[ny]at h
    refine⟨_,h.2,rF _,?_⟩
    unfold Qp
    simp only[hT,hr,db,ny]
    exact⟨h0,h.1,by simp⟩
structure VC(P:Program)(o:Oper)(row:Row)(arr:Array Value):Prop where
 box:row.box=true
 sz:0<row.sz
 cells:∃e,row.es=.gen [e]/\e.length=row.sz/\arr.size=row.sz/\∀(c:Ctx) (w:World),kU c w e arr 0
 run:∀(ev:Operand->Value) (w:World),(execOp ev o).run P w=.ok (.value (.pointer (some ⟨w.heap.size,0,none⟩))) (w.alloc (.cells arr row.ty))
theorem Zsw(hT:jD P T)(ho:o.op=.alloc t){k:TK}{sz b:Nat}{cs:List tO}{ds:List D}{e:Bool}(ht:T.get t=some ⟨k,sz,b,cs,some ds,e⟩)(h0:0<sz)(hl:ds.length=sz):∃arr,VC P o ⟨true,t,sz,.gen [ds]⟩ arr:=by
 obtain⟨i,u,hi,hu,hz,_,_,_,hzero⟩:=JY hT ht
 have hb:∀(c:Ctx) (w:World),Vr c w ⟨true,t,sz,.gen [ds]⟩ u.cells:=λc w=>Zmq h0 hl (J8 hz c w)
 have fy:u.cells.size=sz:=by have:=QH hz;simp at this;omega
 refine⟨u.cells,⟨rfl,h0,⟨ds,rfl,hl,fy,λc w=>?_⟩,λev w=>?_⟩⟩
 ·have:=(hb c w).2
  simp only[if_true]at this
  obtain⟨e',h1,_,_,h4⟩:=this
  cases h1;exact h4
 ·simp only[execOp,ho,Instr.alloc,Sem.run_bind,hzero,Result.andThen_ok,Qyg,Sem.run_pure]
structure Kn(P:Program)(G:List bf)(o:Oper)(env:List (Nat×D))(R:Rows)(ks:List Nat)(val:D)(R':Rows):Prop where
 ld:∀t a r ii off,o.guard=none->o.op=.load t (.tmp a)->look env a=.ptr r ii off->ks=[]/\R'=R/\(∃row,R.getD r none=some row)/\(∀(ev:Operand->D) (R2:Rows),ev (.tmp a)=.ptr r ii off->R2.getD r none=R.getD r none->pW P o ev R2 val R2)/\∀(ev:Operand->D) (R2:Rows) row (L:List (List Nat)),pQ val=true->(∀kk∈L,val.ez kk=val)->ev (.tmp a)=.ptr r ii off->R.getD r none=some row->R2.getD r none=some (L.foldl (λr k=>Row.kill k r) row)->pW P o ev R2 val R2
 st:∀t b x r ii off,o.guard=none->o.op=.store t (.tmp b) x->look env b=.ptr r ii off->ks=[]/\∀r',r'≠r->R'.getD r' none=R.getD r' none
 pu:∀q,o.guard=none->mh env o.op=some q->ks=[]/\R'=R/\∀(ev:Operand->D) (R2:Rows),(∀x∈o.op.operands,ev x=cb env x)->pW P o ev R2 val R2
 cl:∀f args dh,o.guard=none->o.op=.call ⟨.value (.func f),args,dh⟩->(pq G f=none/\Ci G f=false)->ks=[]
 al:∀t,o.guard=none->o.op=.alloc t->ks=[]/\∃row arr,VC P o row arr/\val=.ptr R.length 0 0/\R'=R++[some row]
 ap2:∀args dh,o.guard=none->o.op=.call ⟨.builtin .append,args,dh⟩->∀r row,R.getD r none=some row->cf r ks=false->R'.getD r none=some (row.kill ks)
 ap:∀args dh x l,o.guard=none->o.op=.call ⟨.builtin .append,args,dh⟩->args.toList=.tmp x::l->Ko (look env x)=true->ks=[]/\∀r row,R.getD r none=some row->R'.getD r none=some row
theorem Bs{a:Nat}:∀{l:List Operand},a∈na l↔Operand.tmp a∈l
 |[]=>by simp[na]
 |x::l=>by cases x<;>simp[na,Bs (l:=l)]
theorem Zmi(h:pR op=some q){a:Nat}(ha:Operand.tmp a∈op.operands):a∈q:=by
 unfold pR at h
 split at h
 ·cases h;rw[Bs];simpa[Op.operands]using ha
 ·cases h;rw[Bs];simpa[Op.operands]using ha
 ·cases h;rw[Bs];simpa[Op.operands]using ha
 ·cases h;rw[Bs];simpa[Op.operands]using ha
 ·cases h;rw[Bs];simpa[Op.operands]using ha
 ·cases h;rw[Bs];simpa[Op.operands]using ha
 ·cases h
theorem Zcm(h:pR op=some q):sF G op=false/\GF op=false/\(∀t x,op≠.load t x)/\(∀t x y,op≠.store t x y)/\∀c,op≠.call c:=by
 unfold pR at h
 split at h<;>first|exact⟨rfl,rfl,λ_ _ h=>(by cases h),λ_ _ _ h=>(by cases h),λ_ h=>(by cases h)⟩|cases h
theorem vT(hq:pR op=some q)(h:ig T op ev R K):
 ∃val,K val R/\∀(ir:Operand->D) (R2:Rows),(∀x∈op.operands,ir x=ev x)->ig T op ir R2 λd R'=>d=val/\R'=R2:=by
 unfold pR at hq
 split at hq
 ·rename_i x
  simp only[ig,D.cu]at h⊢
  exact⟨_,h,λir R2 he=>⟨he x (by simp[Op.operands]),trivial⟩⟩
 ·rename_i x
  simp only[ig,D.cu]at h⊢
  exact⟨_,h,λir R2 he=>⟨he x (by simp[Op.operands]),trivial⟩⟩
 ·rename_i x n
  simp only[ig]at h⊢
  split at h
  ·rename_i ds EM
   simp only[db,D.cu]at h
   refine⟨_,h.2,λir R2 he=>?_⟩
   rw[he x (by simp[Op.operands]),EM]
   simp only[db,D.cu]
   exact⟨h.1,trivial,trivial⟩
  ·exact h.elim
 ·rename_i x
  simp only[ig]at h⊢
  split at h
  ·rename_i hx
   refine⟨_,h,λir R2 he=>?_⟩
   rw[he x (by simp[Op.operands]),hx]
   simp
  ·rename_i hx
   refine⟨_,h,λir R2 he=>?_⟩
   rw[he x (by simp[Op.operands]),hx]
   simp
  ·exact h.elim
 ·rename_i t x f
  simp only[ig]at h⊢
  split at h
  ·simp only[db]at h⊢
   obtain⟨h0,h⟩:=h
   split at h
   ·rename_i hx
    refine⟨_,h,λir R2 he=>⟨h0,?_⟩⟩
    rw[he x (by simp[Op.operands]),hx]
    simp
   ·rename_i hx
    refine⟨_,h,λir R2 he=>⟨h0,?_⟩⟩
    rw[he x (by simp[Op.operands]),hx]
    simp
   ·exact h.elim
  ·exact h.elim
 ·rename_i t len parts
  simp only[ig]at h⊢
  obtain⟨val,h1,h2⟩:=Zm4 h
  exact⟨val,h1,λir R2 he=>h2 ir R2 λp hp=>he p.2 (by simp[Op.operands];exact⟨p.1,by simpa using hp⟩)⟩
 ·cases hq
theorem zy(hq:pR o.op=some q){K:St->Prop}(h:mc T G N M o st K):ig T o.op (cb st.env) st.rows λd R=>st.put N o.dst d R K:=by
 obtain⟨dst,op,type,pos,after,guard⟩:=o
 simp only at hq⊢
 unfold pR at hq
 split at hq<;>first|exact h|cases hq
theorem zaz{op:BinOp}{x y:D}{K:D->Prop}(h:tl T op t x y K):∃val,K val/\∀K',K' val->tl T op t x y K':=by
 unfold tl at h⊢
 split at h
 ·split at h
  ·simp only[db]at h⊢;exact⟨_,h.2,λK' h'=>⟨h.1,h'⟩⟩
  ·simp only[db]at h⊢;exact⟨_,h.2,λK' h'=>⟨h.1,h'⟩⟩
  ·rename_i n1 n2
   simp only[db]at h⊢
   obtain⟨h1,h⟩:=h
   unfold Vo at h⊢
   split at h<;>first|exact⟨_,h,λK' h'=>⟨h1,h'⟩⟩|(simp only[db]at h⊢;exact⟨_,h.2,λK' h'=>⟨h1,h.1,h'⟩⟩)|exact h.elim
 ·split at h<;>first|exact⟨_,h,λK' h'=>h'⟩|(simp only[db]at h⊢;exact⟨_,h.2,λK' h'=>⟨h.1,h'⟩⟩)|exact h.elim
 ·split at h
  ·split at h<;>first|exact⟨_,h,λK' h'=>h'⟩|exact h.elim
  ·exact h.elim
 ·split at h
  ·simp only[db]at h⊢
   obtain⟨h1,h⟩:=h
   split at h<;>first|exact⟨_,h,λK' h'=>⟨h1,h'⟩⟩|exact h.elim
  ·exact h.elim
 ·exact h.elim
theorem qU{s d:TypeId}{x:D}{K:D->Prop}(h:MX T s d x K):∃val,K val/\∀K',K' val->MX T s d x K':=by
 unfold MX at h⊢
 split at h
 ·split at h
  ·exact⟨_,h,λK' h'=>h'⟩
  ·exact h.elim
 ·split at h
  ·exact⟨_,h,λK' h'=>h'⟩
  ·exact h.elim
 ·exact h.elim
theorem Zgb{place:Nat->Option (Nat×Nat)}{ev:Operand->D}:∀{parts:List (Nat×Operand)} {cs:List D} {K:List D->Prop},Gh place ev parts cs K->∃l,K l/\∀(ir:Operand->D) (K':List D->Prop),(∀p∈parts,ir p.2=ev p.2)->K' l->Gh place ir parts cs K'
 |[],cs,K,h=>by
  simp only[Gh,D.fp]at h⊢
  exact⟨_,h,λir K' _ h'=>h'⟩
 |(i,x)::ps,cs,K,h=>by
  simp only[Gh]at h⊢
  split at h
  ·rename_i off n hp
   simp only[db]at h
   obtain⟨h1,h⟩:=h
   obtain⟨l,g1,g2⟩:=Zgb h
   refine⟨l,g1,λir K' he h'=>?_⟩
   have hx:=he (i,x) (by simp)
   simp only at hx
   simp only[hx,db]
   exact⟨h1,g2 ir K' (λp hpp=>he p (by simp[hpp])) h'⟩
  ·exact h.elim
theorem yy{parts:List (Nat×Operand)}(h:MZ T t parts ev R K):∃val,K val R/\∀(ir:Operand->D) (R2:Rows),(∀p∈parts,ir p.2=ev p.2)->MZ T t parts ir R2 λd R'=>d=val/\R'=R2:=by
 unfold MZ at h⊢
 split at h
 ·simp only[db]at h⊢
  obtain⟨h1,h⟩:=h
  obtain⟨l,g1,g2⟩:=Zgb h
  exact⟨_,g1,λir R2 he=>⟨h1,g2 ir _ he (by simp)⟩⟩
 ·simp only[db]at h⊢
  obtain⟨h1,h⟩:=h
  obtain⟨l,g1,g2⟩:=Zgb h
  exact⟨_,g1,λir R2 he=>⟨h1,g2 ir _ he (by simp)⟩⟩
 ·exact h.elim
theorem Z6p{str:List UInt8}{lo hi:Option Operand}(h:MY T t (.str str) lo hi ev R K):∃val,K val R/\∀(ir:Operand->D) (R2:Rows),(∀y,lo=some y->ir y=ev y)->(∀y,hi=some y->ir y=ev y)->MY T t (.str str) lo hi ir R2 λd R'=>d=val/\R'=R2:=by
 have Rx:∀(x:Option Operand) (n:Int) (ir:Operand->D),(∀y,x=some y->ir y=ev y)->sx x ir n=sx x ev n:=λx n ir he=>by
  unfold sx
  cases x with
  |none=>rfl
  |some y=>simp only[he y rfl]
 unfold MY at h⊢
 split at h
 ·rename_i x1 x2 x3 x4 x5 ht
  simp only at h
  split at h
  ·rename_i l hh e1 e2
   simp only[db]at h
   refine⟨_,h.2,λir R2 he1 he2=>?_⟩
   simp only[Rx _ _ ir he1,Rx _ _ ir he2,e1,e2,db]
   exact⟨h.1,trivial,trivial⟩
  ·exact h.elim
 ·simp only at h
 ·exact h.elim
 ·exact h.elim
theorem qz{env:List (Nat×D)}(hq:mh env op=some q)(h:ig T op (cb env) R K):
    ∃val,K val R/\ ∀(ir:Operand->D) (R2:Rows),(∀x∈op.operands,ir x=cb env x)->ig T op ir R2 λd R'=>d=val/\R'=R2:=by
  unfold mh at hq
  split at hq
  . rename_i q' hp;exact vT hp h
  . split at hq
    . rename_i t parts hn
      simp only[ig]at h⊢
      obtain⟨val,g1,g2⟩:=yy h
      exact⟨val,g1,λir R2 he=>g2 ir R2 λp hp=>he p.2 (by simp [Op.operands];exact⟨p.1,by simpa using hp⟩)⟩
    . rename_i op' t x y ty hn
      simp only[ig]at h⊢
      obtain⟨val,g1,g2⟩:=zaz h
      refine⟨val,g1,λir R2 he=> ?_⟩
      rw[he x (by simp [Op.operands]),he y (by simp [Op.operands])]
      exact g2 _ (by simp)
    . rename_i op' t x hn
      simp only[ig]at h⊢
      split at h
      all_goals first
        |exact h.elim
        | (rename_i hx
           refine⟨_,h,λir R2 he=> ?_⟩
           rw[he x (by simp [Op.operands]),hx]
           simp)
    . rename_i s d x hn
      simp only[ig]at h⊢
      obtain⟨val,g1,g2⟩:=qU h
      refine⟨val,g1,λir R2 he=> ?_⟩
      rw[he x (by simp [Op.operands])]
      exact g2 _ (by simp)
    . rename_i s x f hn
      simp only[ig]at h⊢
      split at h
      . split at h
        . rename_i cs ti hx ht
          simp only[db]at h
          obtain⟨h1,h⟩:=h
          split at h
          . rename_i Dm
            simp only[D.fp]at h
            refine⟨_,h,λir R2 he=> ?_⟩
            simp only[he x (by simp [Op.operands]),hx,ht,db,Dm,D.fp]
            exact⟨h1,trivial,trivial⟩
          . rename_i Dm
            simp only[db,D.cu]at h
            refine⟨_,h.2,λir R2 he=> ?_⟩
            simp only[he x (by simp [Op.operands]),hx,ht,db,Dm,D.cu]
            exact⟨h1,h.1,trivial,trivial⟩
        . exact h.elim
      . exact h.elim
    . rename_i t x y hn
      simp only[ig]at h⊢
      split at h
      . rename_i ht hx hy
        simp only[db]at h
        refine⟨_,h.2,λir R2 he=> ?_⟩
        simp only[he x (by simp [Op.operands]),he y (by simp [Op.operands]),hx,hy,ht,db]
        exact⟨h.1,trivial,trivial⟩
      . rename_i ht hx hy
        simp only[db]at h
        obtain⟨h1,h⟩:=h
        split at h
        . rename_i Av
          refine⟨_,h.2,λir R2 he=> ?_⟩
          simp only[he x (by simp [Op.operands]),he y (by simp [Op.operands]),hx,hy,ht,db,Av]
          exact⟨h1,h.1,trivial,trivial⟩
        . rename_i Av
          refine⟨_,h.2,λir R2 he=> ?_⟩
          simp only[he x (by simp [Op.operands]),he y (by simp [Op.operands]),hx,hy,ht,db,Av]
          exact⟨h1,h.1,trivial,trivial⟩
        . exact h.elim
      . exact h.elim
    . rename_i t x y z hn
      split at hq
      . rename_i str hx
        simp only[ig,hx]at h⊢
        obtain⟨val,g1,g2⟩:=Z6p h
        refine⟨val,g1,λir R2 he=> ?_⟩
        rw[he x (by simp [Op.operands]),hx]
        exact g2 ir R2 (λu hu=>he u (by cases hu;simp [Op.operands])) (λu hu=>he u (by cases hu;simp [Op.operands]))
      . cases hq
    . rename_i t x y hn
      split at hq
      . rename_i str hx
        simp only[ig,hx]at h⊢
        obtain⟨val,g1,g2⟩:=Z6p h
        refine⟨val,g1,λir R2 he=> ?_⟩
        rw[he x (by simp [Op.operands]),hx]
        exact g2 ir R2 (λu hu=>he u (by cases hu;simp [Op.operands])) (λu hu=>he u (by cases hu))
      . cases hq
    . rename_i t x y hn
      split at hq
      . rename_i str hx
        simp only[ig,hx]at h⊢
        obtain⟨val,g1,g2⟩:=Z6p h
        refine⟨val,g1,λir R2 he=> ?_⟩
        rw[he x (by simp [Op.operands]),hx]
        exact g2 ir R2 (λu hu=>he u (by cases hu)) (λu hu=>he u (by cases hu;simp [Op.operands]))
      . cases hq
    . rename_i t x y hn
      split at hq
      . rename_i sz es fr hx
        simp only[ig,hx]at h⊢
        split at h
        . rename_i k n hy
          unfold Vq at h⊢
          split at h
          . rename_i ht
            simp only[db]at h
            refine⟨_,h.2,λir R2 he=> ?_⟩
            simp only[he x (by simp [Op.operands]),he y (by simp [Op.operands]),hx,hy,ht,db]
            exact⟨h.1,trivial,trivial⟩
          . simp only[db]at h
            exact h.2.elim
          . exact h.elim
        . exact h.elim
      . cases hq
    . rename_i t x hn
      split at hq
      . rename_i sz es i off hx
        simp only[ig,hx]at h⊢
        unfold Ah at h⊢
        split at h
        . exact h.elim
        . rename_i ti ht
          simp only[db]at h
          obtain⟨d,g1,g2⟩:=VB h.2
          refine⟨d,g1,λir R2 he=> ?_⟩
          simp only[he x (by simp [Op.operands]),hx,ht,db]
          exact⟨h.1,g2 _ (by simp)⟩
      . cases hq
    . rename_i args dh hn
      split at hq
      . rename_i x gb
        have hxm:x∈(Op.call {callee:= .builtin .len,args:=args,argTypes:=dh}).operands:=by simp [Op.operands,Call.operands];rw[<-gU,gb];simp
        simp only[ig,gb]at h⊢
        split at h
        . rename_i y t e1 e2
          cases e1
          rw[e2]at*
          split at hq
          . rename_i str hx
            simp only[hx]at h⊢
            unfold tu at h⊢
            split at h
            . simp only at h
              exact⟨_,h,λir R2 he=>by simp only[he x hxm,hx];simp⟩
            . exact h.elim
            . exact h.elim
          . rename_i sz es fr hx
            simp only[hx]at h⊢
            unfold tu at h⊢
            split at h
            . exact h.elim
            . simp only at h
              exact⟨_,h,λir R2 he=>by simp only[he x hxm,hx];simp⟩
            . exact h.elim
          . cases hq
        . exact h.elim
      . cases hq
    . cases hq
theorem Z6o{env:List (Nat×D)}(h:mh env op=some q){a:Nat}(ha:Operand.tmp a∈op.operands):a∈q:=by
 unfold mh at h
 split at h
 ·cases h;exact Zmi (by assumption) ha
 ·split at h
  all_goals first
   |(cases h;done)
   |(cases h;rw[Bs];simpa[Op.operands]using ha)
   |(split at h<;>first|(cases h;done)|(cases h;rw[Bs];simpa[Op.operands]using ha))
   |skip
  split at h
  ·rename_i x hx
   have jG:Operand.tmp a=x:=by
    simp[Op.operands,Call.operands]at ha
    rw[<-gU,hx]at ha
    simpa using ha
   split at h<;>first|(cases h;done)|(cases h;rw[Bs,jG];simp)
  ·cases h
theorem Z54{env:List (Nat×D)}(h:mh env op=some q):sF G op=false/\GF op=false/\(∀t x y,op≠.store t x y)/\(∀f args dh,op≠.call ⟨.value (.func f),args,dh⟩)/\∀t,op≠.alloc t:=by
 unfold mh at h
 split at h
 ·rename_i q' hp
  obtain⟨h1,h2,h3,h4,h5⟩:=Zcm (G:=G) hp
  exact⟨h1,h2,h4,λ_ _ _=>h5 _,λt e=>by rw[e]at hp;cases hp⟩
 ·split at h<;>first|(cases h;done)|exact⟨rfl,rfl,λ_ _ _ h=>(by cases h),λ_ _ _ h=>(by cases h),λ_ h=>(by cases h)⟩
theorem Zt0(hq:mh st.env o.op=some q){K:St->Prop}(h:mc T G N M o st K):ig T o.op (cb st.env) st.rows λd R=>st.put N o.dst d R K:=by
  obtain⟨dst,op,type,pos,after,guard⟩:=o
  simp only at hq⊢
  unfold mh at hq
  split at hq
  . rename_i q' hp
    exact zy (o:=⟨dst,op,type,pos,after,guard⟩) hp h
  . split at hq
    all_goals first
      |(cases hq;done)
      |exact h
      |skip
    . rename_i op' t x y ty hn
      unfold mc at h
      simp only at h
      split at h
      . rename_i hx hy
        rw[hx]at hq;cases hq
      . exact h
    . rename_i s d x hn
      unfold mc at h
      simp only at h
      split at h
      . exfalso
        unfold wI at h
        split at h
        . split at h
          . rename_i he
            split at hq
            . rename_i hx;rw[hx]at he;cases he
            . rename_i hx;rw[hx]at he;cases he
            . cases hq
          . exact h
        . exact h
      . exact h
def tB:D->Bool|.all _=>true|.int _ _=>true|.str _=>true|.bool _=>true|.sl _ _ _=>true|.iv _ _ _ _=>true|.ptr _ _ _=>true|.emp=>true|.dx=>true|_=>false
theorem Zfk(h:Ko d=true):tB d=true:=by cases d<;>first|rfl|cases h
theorem Qnn(h:H7 d=true):tB d=true:=by cases d<;>first|rfl|cases h
theorem Zn3{ks:List Nat}{d p:D}(hp:tB p=true)(h:d.gr ks=p):d=p:=by
 subst h
 cases d with
 |all x=>simp only[D.gr,D.kill,D.ez]at hp⊢;cases hb:cf x ks<;>simp[hb,tB]at hp⊢
 |own x y z=>simp only[D.gr,D.kill,D.ez]at hp⊢;cases hb:cf x ks<;>simp[hb,tB]at hp
 |ptr x y z=>simp only[D.gr,D.kill,D.ez]at hp⊢;cases hb:cf x ks<;>simp[hb,tB]at hp⊢
 |pa x y z u v q=>simp only[D.gr,D.kill,D.ez]at hp⊢;cases hb:cf x ks<;>simp[hb,tB]at hp
 |c9 x=>simp only[D.gr,D.kill,D.ez]at hp⊢;cases hb:cf x ks<;>simp[hb,tB]at hp
 |gq f cs=>simp only[D.gr,D.kill,D.ez]at hp⊢;cases hb:nV (oJ cs) ks<;>simp[hb,tB]at hp
 |_=>first|rfl|simp[D.gr,D.kill,D.ez,tB]at hp
theorem Zrr{env mz:List (Nat×D)}(h:mh env op=some q)(hb: ∀a∈q,tB (look env a)=true->look mz a=look env a):mh mz op=some q:=by
  have one: ∀(x:Operand),(∀a,x= .tmp a->a∈q)->tB (cb env x)=true->cb mz x=cb env x:=λx hx hs=>by
    cases x with
    |tmp a=>exact hb a (hx a rfl) hs
    |_=>rfl
  unfold mh at h⊢
  split at h
  . exact h
  . split at h
    all_goals first
      |(cases h;done)
      |exact h
      |skip
    all_goals
      split at h
      all_goals first
        |(cases h;done)
        | (rename_i hx
           cases h
           first
             |(have:=one _ (λa e=>by rw[Bs,<-e];exact gT) (by rw[hx];rfl);rw[this,hx])
             |(have:=one _ (λa e=>by rw[Bs,<-e];simp) (by rw[hx];rfl);rw[this,hx]))
        |skip
    split at h
    all_goals first
      |(cases h;done)
      | (rename_i hx
         cases h
         have:=one _ (λa e=>by rw[Bs,<-e];exact gT) (by rw[hx];rfl);rw[this,hx])
theorem xz{t tx:TypeId}{x y:D}{K:List Nat->D->Rows->Prop}(h:MK T M t tx x y R K):
 MK T M t tx x y R λks d R'=>((Ko x=true->ks=[]/\∀r row,R.getD r none=some row->R'.getD r none=some row)/\∀r row,R.getD r none=some row->cf r ks=false->R'.getD r none=some (row.kill ks))/\K ks d R':=by
 have go:∀{e sz lZ:Nat} {Kp:List Nat} {es ys:ak},(Ko x=true->Kp=[])->Dd e sz lZ R Kp es ys K->Dd e sz lZ R Kp es ys λks d R'=>((Ko x=true->ks=[]/\∀r row,R.getD r none=some row->R'.getD r none=some row)/\∀r row,R.getD r none=some row->cf r ks=false->R'.getD r none=some (row.kill ks))/\K ks d R':=by
  intro e sz lZ Kp es ys hx h
  simp only[Dd,db,ny]at h⊢
  have key:∀r row,R.getD r none=some row->cf r Kp=false->(su Kp R 0++[some (⟨false,e,sz,es.app ys⟩:Row)]).getD r none=some (row.kill Kp):=λr row hr hm=>by
   have hl:r<R.length:=by
    by_cases hh:r<R.length
    ·exact hh
    ·simp only[aK,aM (show R.length<=r by omega)]at hr;cases hr
   rw[Qof (by rw[JU];exact hl),QG,hr,Nat.zero_add,hm]
   simp
  refine⟨h.1,⟨λe=>⟨hx e,λr row hr=>?_⟩,key⟩,h.2⟩
  have:=key r row hr (by rw[hx e];rfl)
  rw[this,hx e,Z4y]
 unfold MK at h⊢
 split at h
 ·split at h
  ·split at h
   ·rename_i j8
    simp only[db]at h⊢
    refine⟨h.1,?_⟩
    have h:=h.2
    cases x<;>first|(exact h.elim;done)|(exact go (λ_=>rfl) h;done)|skip
    all_goals
     (try simp only at h⊢)
     split at h
     ·exact⟨h.1,go (λe=>by cases e) h.2⟩
     ·exact h.elim
   ·exact h.elim
  ·exact h.elim
 ·exact h.elim
theorem Zsh(hT:jD P T)(hG:j5 P G){l:List Oper}{K:St->Prop}(h:mn T G N M ops (o::l) st K):
    ∃ks val R' iN,(∀t,look iN t=look (sD ks st.env) t)/\(∀t,o.dst=some t->t<N)/\nE P G M ops o st.env st.rows ks val R'/\mn T G N M ops l ⟨sE iN o.dst val,R'⟩ K/\Kn P G o st.env st.rows ks val R':=by
  by_cases hL: ∃t a r ii off,o.guard=none/\o.op= .load t (.tmp a)/\look st.env a= .ptr r ii off
  . obtain⟨t,a,r,ii,off,hg,ho,ha⟩:=hL
    simp only[mn,hg,mc,ho,ig,cb,ha]at h
    obtain⟨d,h1,h2,h3⟩:=Zik h
    obtain⟨g1,g2⟩:=pr h1
    have hN: ∀(ev:Operand->D) (R2:Rows),ev (.tmp a)= .ptr r ii off->R2.getD r none=st.rows.getD r none->pW P o ev R2 d R2:=λev R2 he uZ=>by
      have:=h3 R2 uZ
      obtain⟨val,R',⟨rfl,rfl⟩,hO⟩:=NK hT o ev R2 (λd' R'=>d'=d/\R'=R2) (by simp only[ho,ig,he];exact this)
      simpa [ho,GF] using hO
    have hN2: ∀(ev:Operand->D) (R2:Rows) row (L:List (List Nat)),pQ d=true->(∀kk∈L,d.ez kk=d)->ev (.tmp a)= .ptr r ii off->st.rows.getD r none=some row->R2.getD r none=some (L.foldl (λr k=>Row.kill k r) row)->pW P o ev R2 d R2:=λev R2 row L hd hL he hr uZ=>by
      have:=Zt3 (h3 st.rows rfl) hd hL hr uZ
      obtain⟨val,R',⟨rfl,rfl⟩,hO⟩:=NK hT o ev R2 (λd' R'=>d'=d/\R'=R2) (by simp only[ho,ig,he];exact this)
      simpa [ho,GF] using hO
    refine⟨[],d,st.rows,st.env,λt=>pk.symm,g1,?_,g2,λt' a' r' mv iR _ jd jG=> ?_,λt' b x r' mv iR _ jd=> ?_,λq _ hq=> ?_,λf args dh _ hf _=>by simp [ho]at hf,λt' _ hf=>by simp [ho]at hf,λargs dh _ hf=>by simp [ho]at hf,λargs dh x' l' _ hf=>by simp [ho]at hf⟩
    . unfold nE
      simp only[hg]
      exact Cf (by rw[ho];rfl) (hN _ _ (by simp [cb,ha]) rfl)
    . rw[ho]at jd;cases jd
      rw[ha]at jG;cases jG
      exact⟨rfl,rfl,h2,hN,hN2⟩
    . rw[ho]at jd;cases jd
    . rw[ho]at hq;simp [mh,pR,cb,ha]at hq
  . by_cases hS : ∃t b x r ii off,o.guard=none/\o.op= .store t (.tmp b) x/\look st.env b= .ptr r ii off
    . obtain⟨t,b,x,r,ii,off,hg,ho,hb⟩:=hS
      simp only[mn,hg,mc,ho,ig]at h
      rw[show cb st.env (.tmp b)= .ptr r ii off by simp [cb,hb]]at h
      obtain⟨R',h1,h2,h3⟩:=Zft h
      obtain⟨g1,g2⟩:=pr h1
      obtain⟨val,R2,⟨rfl,rfl⟩,hO⟩:=NK hT o (cb st.env) st.rows (λd' R2=>d'= .dead/\R2=R') (by simp only[ho,ig];rw[show cb st.env (.tmp b)= .ptr r ii off by simp [cb,hb]];exact h3)
      refine⟨[], .dead,R2,st.env,λt=>pk.symm,g1,?_,g2,λt' a' r' mv iR _ jd=> ?_,λt' b' x' r' mv iR _ jd tQ=> ?_,λq _ hq=> ?_,λf args dh _ hf _=>by simp [ho]at hf,λt' _ hf=>by simp [ho]at hf,λargs dh _ hf=>by simp [ho]at hf,λargs dh x' l' _ hf=>by simp [ho]at hf⟩
      . unfold nE
        simp only[hg]
        have hO':Fj P o (cb st.env) st.rows .dead R2:=by simpa [ho,GF] using hO
        exact Cg (by rw[ho];rfl) (λk hk=>by simp [cf]at hk) hO'.toK
      . rw[ho]at jd;cases jd
      . rw[ho]at jd;cases jd
        rw[hb]at tQ;cases tQ
        exact⟨rfl,h2⟩
      . rw[ho]at hq;cases hq
    . by_cases hP : ∃q,o.guard=none/\mh st.env o.op=some q
      . obtain⟨q,hg,hq⟩:=hP
        simp only[mn,hg]at h
        have r8:=Zt0 hq h
        obtain⟨val,Jag,Jah⟩:=qz hq r8
        obtain⟨hW,hS',Nx,hnc,hna⟩:=Z54 (G:=G) hq
        have hN: ∀(ev:Operand->D) (R2:Rows),(∀x∈o.op.operands,ev x=cb st.env x)->pW P o ev R2 val R2:=λev R2 he=>by
          obtain⟨JaE,R',⟨rfl,rfl⟩,hO⟩:=NK hT o ev R2 _ (Jah ev R2 he)
          simpa [hS'] using hO
        obtain⟨g1,g2⟩:=pr Jag
        refine⟨[],val,st.rows,st.env,λt=>pk.symm,g1,?_,g2,λt' a' r' mv iR Tq jd jG=>(hL ⟨t',a',r',mv,iR,Tq,jd,jG⟩).elim,λt' b' x' r' mv iR _ jd=>(Nx _ _ _ jd).elim,λq' _ Gn=>⟨rfl,rfl,hN⟩,λf args dh _ hf _=>(hnc _ _ _ hf).elim,λt' _ hf=>(hna _ hf).elim,λargs dh _ hf=>by rw[hf]at hq;simp [mh,pR]at hq,λargs dh x' l' _ hf=>by rw[hf]at hq;simp [mh,pR]at hq⟩
        unfold nE
        simp only[hg]
        exact Cf hW (hN _ _ (λ_ _=>rfl))
      . by_cases hC: ∃f args dh,o.guard=none/\o.op= .call ⟨.value (.func f),args,dh⟩/\(pq G f=none/\Ci G f=false)
        . obtain⟨f,args,dh,hg,ho,mb,Eb⟩:=hC
          obtain⟨dst,op,type,pos,after,guard⟩:=o
          simp only at hg ho
          subst hg;subst ho
          simp only[mn,mc,mb,Eb]at h
          have IE: ∀x,oZ G f=some x->x.pw=false:=λx hx=>by simpa [Ci,hx] using Eb
          obtain⟨val,R',x,hK,hx,hO,hN⟩:=WW (dst:=dst) (type:=type) (pos':=pos) (after:=after) (guard:=none) (dh:=dh) hG mb h
          obtain⟨g1,g2⟩:=pr hK
          refine⟨[],_,_,st.env,λt=>pk.symm,g1,?_,g2,λt' a' r' mv iR _ jd=>(by cases jd),λt' b' x' r' mv iR _ jd=>(by cases jd),λq' _ Gn=>(by cases Gn),λ_ _ _ _ _ _=>rfl,λt' _ hf=>(by cases hf),λargs dh _ hf=>(by cases hf),λargs dh x' l' _ hf=>(by cases hf)⟩
          unfold nE
          cases hr:x.refs with
          |nil=>exact Cf (by simp only[sF,hx,hr,IE x hx]) (hN hr)
          |cons b bs=>exact Cg (by simp only[sF,hx,hr]) (λk hk=>by simp [cf]at hk) hO.toK
        . by_cases hAl: ∃t,o.guard=none/\o.op= .alloc t
          . obtain⟨t,hg,ho⟩:=hAl
            obtain⟨dst,op,type,pos,after,guard⟩:=o
            simp only at hg ho
            subst hg;subst ho
            simp only[mn,mc,ig]at h
            split at h
            . rename_i ht
              simp only[db,aE,Qx]at h
              obtain⟨⟨h0,hl⟩,h⟩:=h
              obtain⟨g1,g2⟩:=pr h
              obtain⟨arr,hA⟩:=Zsw (o:=⟨dst, .alloc t,type,pos,after,none⟩) hT rfl ht (lE h0) (bE hl)
              refine⟨[],_,_,st.env,λt=>pk.symm,g1,?_,g2,λt' a' r' mv iR _ jd=>(by cases jd),λt' b' x' r' mv iR _ jd=>(by cases jd),λq' _ Gn=>(by cases Gn),λ_ _ _ _ hf=>(by cases hf),λt' _ hf=>⟨rfl,_,arr,hA,rfl,rfl⟩,λargs dh _ hf=>(by cases hf),λargs dh x' l' _ hf=>(by cases hf)⟩
              unfold nE
              exact Cf rfl (Vg λc w a hm SU fh=>⟨_,rfl,Zoz hT ht (lE h0) (bE hl) st.rows.length c w⟩)
            . exact h.elim
          by_cases hAp: ∃args dh,o.guard=none/\o.op= .call ⟨.builtin .append,args,dh⟩
          . obtain⟨args,dh,hg,ho⟩:=hAp
            obtain⟨dst,op,type,pos,after,guard⟩:=o
            simp only at hg ho
            subst hg;subst ho
            simp only[mn,mc]at h
            split at h
            . rename_i x y t tx nP ht
              have Kq:args= #[x,y]:=by rw[<-bS (xs:=args),nP]
              have uE:dh= #[t,tx]:=by rw[<-bS (xs:=dh),ht]
              subst Kq;subst uE
              have h':=xz h
              obtain⟨ks,R',⟨⟨Jai,Df⟩,hK⟩,hM,hr⟩:=Zpx (ty:=type) hT h'
              rw[ID]at hK
              obtain⟨h1,h2⟩:=pr hK
              refine⟨ks,_,_,_,λt=>rfl,h1,?_,h2,λt' a' r' mv iR _ jd=>(by cases jd),λt' b' x' r' mv iR _ jd=>(by cases jd),λq' _ Gn=>(by cases Gn),λ_ _ _ _ hf=>(by cases hf),λt' _ hf=>(by cases hf),λargs dh _ hf r row hr hm=>Df r row hr hm,λargs dh x' l' _ hf ha he=> ?_⟩
              rotate_left
              . cases hf
                have hx:x= .tmp x':=by
                  have:=congrArg List.head? ha
                  simpa using this
                subst hx
                exact Jai he
              unfold nE
              refine Cg rfl hM λc w a hm hb hR fh K' Q rC=> ?_
              obtain⟨v',w',c',il,hn,j7,hv⟩:=hr c w _ _ hm hb hR (fh x (by simp [Op.operands,Call.operands])) (fh y (by simp [Op.operands,Call.operands]))
              refine Qk ?_ (rC v' w' c' hn j7 hv)
              simp only[execOp,resolve,Sem.run_bind,Sem.run_pure,Result.andThen_ok,invoke,builtin]
              have:(#[x,y]:Array Operand).map a.eval= #[a.eval x,a.eval y]:=by simp
              rw[this,il];rfl
            . exact h.elim
          obtain⟨ks,val,R',iN,h0,h1,h2,h3⟩:=Wx hT hG h
          exact⟨ks,val,R',iN,h0,h1,h2,h3,λt a r ii off hg ho ha=>(hL ⟨t,a,r,ii,off,hg,ho,ha⟩).elim,λt b x r ii off hg ho hb=>(hS ⟨t,b,x,r,ii,off,hg,ho,hb⟩).elim,λq hg hq=>(hP ⟨q,hg,hq⟩).elim,λf args dh hg ho mb=>(hC ⟨f,args,dh,hg,ho,mb⟩).elim,λt hg ho=>(hAl ⟨t,hg,ho⟩).elim,λargs dh hg ho=>(hAp ⟨args,dh,hg,ho⟩).elim,λargs dh x l' hg ho ha he=>(hAp ⟨args,dh,hg,ho⟩).elim⟩
theorem Ry(h:pQ d=true):tB d=true:=by cases d<;>first|rfl|cases h
theorem zz{ks:List Nat}(h:d.gr ks=.ptr r i off):d=.ptr r i off:=by
 cases d with
 |all x=>simp only[D.gr,D.kill,D.ez]at h;cases hb:cf x ks<;>rw[hb]at h<;>cases h
 |own x y z=>simp only[D.gr,D.kill,D.ez]at h;cases hb:cf x ks<;>rw[hb]at h<;>cases h
 |ptr x y z=>simp only[D.gr,D.kill,D.ez]at h;cases hb:cf x ks<;>rw[hb]at h<;>cases h;rfl
 |pa x y z u v q=>simp only[D.gr,D.kill,D.ez]at h;cases hb:cf x ks<;>rw[hb]at h<;>cases h
 |c9 x=>simp only[D.gr,D.kill,D.ez]at h;cases hb:cf x ks<;>rw[hb]at h<;>cases h
 |gq f cs=>simp only[D.gr,D.kill,D.ez]at h;cases hb:nV (oJ cs) ks<;>rw[hb]at h<;>cases h
 |dt ds=>simp[D.gr]at h
 |agg ds=>simp[D.gr,D.kill]at h
 |_=>simp[D.gr,D.kill,D.ez]at h
theorem Kr{i a k:Nat}(h:lF ops i a=true)(hk:i<=k)(ho:ops[k]?=some o):o.dst≠some a:=by
 intro hd
 have hm:o∈ops.toList.drop i:=by
  have h1:(ops.toList.drop i)[k-i]?=some o:=by
   rw[List.getElem?_drop,show i+(k-i)=k by omega];simpa using ho
  exact fV h1
 have:=List.all_eq_true.1 h o hm
 simp[hd]at this
theorem Zso{f:FuncId}(h:(match pq G f with|some _=>true|none=>Ci G f)=false):pq G f=none/\Ci G f=false:=by
 cases hg:pq G f with
 |none=>rw[hg]at h;exact⟨rfl,h⟩
 |some k=>rw[hg]at h;cases h
def Ks(ops:Array Oper)(env:List (Nat×D))(i:Nat)(o:Oper)(q:List Nat):Prop:=
 (∀a∈q,lF ops i a=true/\H7 (look env a)=true)/\∀t,o.dst=some t->lF ops (i+1) t=true/\H7 (look env t)=true
theorem VD{env:List (Nat×D)}(h:pR op=some q):mh env op=some q:=by
 unfold mh;rw[h]
theorem Rz{env:List (Nat×D)}(hx:ops[i]?=some x)(hy:ops[j]?=some y)(h:M5 G ops env i j=true):
 (∃t a t' b z r r' ii off mv iR,x.guard=none/\y.guard=none/\x.op=.load t (.tmp a)/\y.op=.store t' (.tmp b) z/\lF ops i a=true/\lF ops j b=true/\look env a=.ptr r ii off/\look env b=.ptr r' mv iR/\r≠r')\/
 (∃q,x.guard=none/\y.guard=none/\mh env x.op=some q/\(∀a∈q,lF ops i a=true)/\((∃t' b z r' mv iR,y.op=.store t' (.tmp b) z/\lF ops j b=true/\look env b=.ptr r' mv iR)\/∃f args dh,y.op=.call ⟨.value (.func f),args,dh⟩/\(pq G f=none/\Ci G f=false)))\/
 (∃q,x.guard=none/\pR x.op=some q/\Ks ops env i x q)\/
 (∃t a r ii off args dh x0 l,x.guard=none/\y.guard=none/\x.op=.load t (.tmp a)/\lF ops i a=true/\look env a=.ptr r ii off/\y.op=.call ⟨.builtin .append,args,dh⟩/\args.toList=.tmp x0::l/\lF ops j x0=true/\Ko (look env x0)=true)\/
 (∃t a r ii off args dh td,x.guard=none/\y.guard=none/\x.op=.load t (.tmp a)/\lF ops i a=true/\look env a=.ptr r ii off/\y.op=.call ⟨.builtin .append,args,dh⟩/\x.dst=some td/\lF ops (i+1) td=true/\pQ (look env td)=true):=by
 unfold M5 at h
 simp only[hx,hy]at h
 split at h
 ·rename_i t a t' b z h1 h2 h3 h4
  simp only[aE]at h
  obtain⟨g1,g2,g3⟩:=h
  split at g3
  ·rename_i r ii off r' mv iR e1 e2
   refine .inl ⟨t,a,t',b,z,r,r',ii,off,mv,iR,h1,h2,h3,h4,g1,g2,e1,e2,λe=>?_⟩
   subst e
   simp at g3
  ·rename_i sz es k off r' mv iR e1 e2
   exact .inr (.inl ⟨[a],h1,h2,by rw[h3];simp[mh,pR,cb,e1,na],λa' ha=>by simp at ha;subst ha;exact g1,.inl ⟨t',b,z,r',mv,iR,h4,g2,e2⟩⟩)
  ·cases g3
 ·rename_i op t' b z h1 h2 h4 _
  split at h
  ·rename_i q hq
   simp only[aE]at h
   obtain⟨g1,g2,g3⟩:=h
   split at g3
   ·rename_i r' mv iR e2
    exact .inr (.inl ⟨q,h1,h2,hq,λa ha=>List.all_eq_true.1 g1 a ha,.inl ⟨t',b,z,r',mv,iR,h4,g2,e2⟩⟩)
   ·cases g3
  ·cases h
 ·rename_i op f dh h1 h2 h4
  split at h
  ·cases h
  ·rename_i IN
   have Jaj:=Zso IN
   split at h
   ·rename_i q hq
    exact .inr (.inl ⟨q,by assumption,by assumption,hq,λa ha=>List.all_eq_true.1 h a ha,.inr ⟨_,_,_,by assumption,Jaj⟩⟩)
   ·cases h
 ·rename_i op args dh h1 h2 h4 _
  split at h
  ·rename_i q hq
   simp only[aE]at h
   refine .inr (.inr (.inl ⟨q,by assumption,hq,λa ha=>?_,λt ht=>?_⟩))
   ·have:=List.all_eq_true.1 h.1 a ha
    simpa only[aE]using this
   ·have:=h.2
    simp only[ht,aE]at this
    exact this
  ·have RA:∀{d:D},H7 d=true->∃r ii off,d=.ptr r ii off:=fun{d} k=>by
    cases d<;>first|(cases k;done)|exact⟨_,_,_,rfl⟩
   rcases Bool.or_eq_true_iff.1 h with h|h
   ·unfold DG at h
    split at h
    ·rename_i t a x0 l hxo hl
     simp only[aE]at h
     obtain⟨k1,k2,k3,k4⟩:=h
     obtain⟨r,ii,off,hr⟩:=RA k3
     exact .inr (.inr (.inr (.inl ⟨t,a,r,ii,off,dh,h1,x0,l,by assumption,by assumption,hxo,k1,hr,by assumption,hl,k2,k4⟩)))
    ·cases h
   ·unfold DH at h
    split at h
    ·rename_i t a td hxo uf
     simp only[aE]at h
     obtain⟨k1,k2,k3,k4⟩:=h
     obtain⟨r,ii,off,hr⟩:=RA k2
     exact .inr (.inr (.inr (.inr ⟨t,a,r,ii,off,dh,h1,td,by assumption,by assumption,hxo,k1,hr,by assumption,uf,k3,k4⟩)))
    ·cases h
 ·cases h
theorem Zm(hy:ops[j]?=some y)(h:wh ops j=true):(∃t,y.guard=none/\y.op=.alloc t)/\∀u,y.dst=some u->∀k o',k≠j->ops[k]?=some o'->o'.dst≠some u:=by
 unfold wh at h
 simp only[hy]at h
 split at h
 ·rename_i t h1 h2
  refine⟨⟨t,h1,h2⟩,λu hu k o' hk dz hd=>?_⟩
  simp only[hu]at h
  have bz:=(Array.getElem?_eq_some_iff.1 dz).1
  have:=List.all_eq_true.1 h k (List.mem_range.2 bz)
  simp only[dz,aL,hd,aI]at this
  rcases this with this|this
  ·exact hk (bE this)
  ·simp at this
 ·cases h
theorem Gp{env:List (Nat×D)}(h:RB G ops env=true)(Wy:i<j)(hx:ops[i]?=some x)(hy:ops[j]?=some y):
 (x.apart ops y=true\/((Region.before ops).getD j 0).testBit i=true)/\((lI G x.op=true/\lI G y.op=true)\/((Region.before ops).getD j 0).testBit i=true\/M5 G ops env i j=true\/((∃t,y.guard=none/\y.op=.alloc t)/\∀u,y.dst=some u->∀k o',k≠j->ops[k]?=some o'->o'.dst≠some u)):=by
 have hj:=(Array.getElem?_eq_some_iff.1 hy).1
 have h1:=List.all_eq_true.1 h j (List.mem_range.2 hj)
 simp only[aE]at h1
 have h2:=List.all_eq_true.1 h1.2 i (List.mem_range.2 Wy)
 unfold Am at h2
 simp only[hx,hy,aE,aI]at h2
 exact⟨h2.1,h2.2.elim (λg=>g.elim .inl (λg=>.inr (.inl g))) (λg=>g.elim (λg=>.inr (.inr (.inl g))) (λg=>.inr (.inr (.inr (Zm hy g)))))⟩
theorem Zhu{env:List (Nat×D)}(h:RB G ops env=true)(hy:ops[j]?=some y):∀e∈y.after,Region.binds .any e=true->e.on<j:=by
 have hj:=(Array.getElem?_eq_some_iff.1 hy).1
 have h1:=List.all_eq_true.1 h j (List.mem_range.2 hj)
 simp only[aE,hy]at h1
 intro e he hb
 have:=Array.all_eq_true'.1 h1.1 e he
 simp only[hb,Bool.not_true,Bool.false_or]at this
 exact lE this
theorem xaz{env:List (Nat×D)}{ks:List Nat}{val:D}{R':Rows}(hi:ops[i]?=some o)
 (hm:Mem c w) (hb:c.base<=w.heap.size) (hR:∀r,c.R r=R.getD r none) (fh:∀t∈o.looksAt ops,Rep c w (look env t) (a.tmps.getD t undef)) (hG:nE P G M ops o env R ks val R') {K:Act->World->Prop} {Q:Exit->Act->World->Prop}
 (hK:∀v w' c',(∀k,cf k ks=true->M<=k)->jJ ks c w c' w'->(∀r,c'.R r=R'.getD r none)->Rep c' w' val v->K (a.put o.dst v) w'):wpOp P ops Q i K a w:=by
 have hx:∀x∈o.op.operands,Rep c w (cb env x) (a.eval x):=λx hx=>by
  cases x with
  |tmp t=>
   refine fh t ?_
   unfold Oper.looksAt
   exact gO _ (List.mem_filterMap.2 ⟨.tmp t,by simpa using hx,rfl⟩)
  |const v=>
   simp only[cb,Act.eval]
   cases hv:Gy v with
   |none=>trivial
   |some d=>exact Nz hv c w
  |global g=>trivial
  |func f=>exact KP f
 have run:pT P G M o (cb env) R ks val R'->o.nw P a w K Q:=λhX=>hX.toK.2 c w a hm hb hR hx K Q λv w' c' h1 h2 h3=>hK v w' c' hX.toK.1 h1 h2 h3
 have skip:ks=[]->val=.dt []->R'=R->K (a.put o.dst undef) w:=λe0 e1 e2=>by
  subst e0;subst e1;subst e2
  exact hK undef w c (λk hk=>by simp[cf]at hk) (lY.toK ⟨hm,jn.refl _ _,Fr.refl _ _,λb hb=>.inl hb,λr row hr v=>.inl ⟨⟨row,hr⟩,v,rfl⟩⟩) hR (SV _ _)
 unfold wpOp
 simp only[hi]
 unfold nE at hG
 cases hg:o.guard with
 |none=>
  simp only[hg]at hG
  have hw:Region.wanted o (yielded ops a.tmps)=true:=by simp[Region.wanted,hg]
  rw[if_pos hw]
  exact run hG
 |some jw=>
  obtain⟨j,want⟩:=jw
  simp only[hg]at hG
  obtain⟨g,h2,hG⟩:=hG
  have hr:=fh g (by
   unfold Oper.looksAt
   refine gN _ ?_
   simp only[hg,h2];simp)
  rcases hG with⟨b,h3,h4⟩|⟨h3,e0,e1,e2⟩
  rotate_left
  ·rw[h3]at hr
   rw[if_neg (by rw[SW (o:=o) hg h2 hr];simp)]
   exact skip e0 e1 e2
  rw[h3]at hr
  have hw:=SX (o:=o) hg h2 hr
  by_cases e:b=want
  ·rw[if_pos e]at h4
   rw[if_pos (by rw[hw];simpa using e)]
   exact run h4
  ·rw[if_neg e]at h4
   rw[if_neg (by rw[hw];simpa using e)]
   exact skip h4.1 h4.2.1 h4.2.2
structure VE(P:Program)(G:List bf)(N M:Nat)(ops:Array Oper)(s:Nat->St)(ks:Nat->List Nat)(val:Nat->D):Prop extends Chain P G N M ops s ks val where
 mO:∀(i:Nat) (o:Oper),ops[i]?=some o->Kn P G o (s i).env (s i).rows (ks i) (val i) (s (i+1)).rows
theorem Zk3{P:Program}{T:iM}(hT:jD P T){G:List bf}(hG:j5 P G){N M:Nat}{ops:Array Oper}{K:St->Prop}:∀(l:List Oper) (k:Nat) (st:St),ops.toList.drop k=l->mn T G N M ops l st K->
 ∃ (s:Nat->St) (ks:Nat->List Nat) (val:Nat->D),s k=st/\K (s (k+l.length))/\(∀(i:Nat) (o:Oper),k<=i->ops[i]?=some o->nE P G M ops o (s i).env (s i).rows (ks i) (val i) (s (i+1)).rows)/\
  (∀(i:Nat) (o:Oper) (t:Nat),k<=i->ops[i]?=some o->look (s (i+1)).env t=if o.dst=some t then val i else look (sD (ks i) (s i).env) t)/\(∀(i:Nat) (o:Oper) (t:Nat),k<=i->ops[i]?=some o->o.dst=some t->t<N)/\
  (∀(i:Nat) (o:Oper),k<=i->ops[i]?=some o->Kn P G o (s i).env (s i).rows (ks i) (val i) (s (i+1)).rows)
 |[],k,st,hk,h=>by
  have hlen:ops.size<=k:=by
   have:=congrArg List.length hk
   simp at this;omega
  have no:∀(i:Nat) (o:Oper),k<=i->ops[i]?=some o->False:=λi o hi ho=>by
   have:=(Array.getElem?_eq_some_iff.1 ho).1;omega
  exact⟨λ_=>st,λ_=>[],λ_=>.dead,rfl,h,λi o hi ho=>(no i o hi ho).elim,λi o t hi ho=>(no i o hi ho).elim,λi o t hi ho=>(no i o hi ho).elim,λi o hi ho=>(no i o hi ho).elim⟩
 |o ::l,k,st,hk,h=>by
  have bz:k<ops.toList.length:=by
   by_cases bz:k<ops.toList.length
   ·exact bz
   ·rw[List.drop_eq_nil_of_le (by omega)]at hk;cases hk
  rw[List.drop_eq_getElem_cons bz]at hk
  have ho:ops[k]?=some o:=by
   have:=(List.cons.inj hk).1
   rw[<-this]
   simp at bz
   simp[bz]
  obtain⟨kk,v,R',iN,h1,h2,h3,h4,h5⟩:=Zsh hT hG h
  obtain⟨s,ks,val,g1,g2,g3,g4,g5,g6⟩:=Zk3 hT hG l (k+1) _ (List.cons.inj hk).2 h4
  refine⟨λi=>if i=k then st else s i,λi=>if i=k then kk else ks i,λi=>if i=k then v else val i,by simp,?_,λi p hi hp=>?_,λi p t hi hp=>?_,λi p t hi hp hd=>?_,λi p hi hp=>?_⟩
  ·simp only[List.length_cons]
   rw[if_neg (by omega),show k+(l.length+1)=k+1+l.length by omega]
   exact g2
  ·by_cases e:i=k
   ·subst e
    rw[ho]at hp;cases hp
    simp only[if_true,show¬i+1=i by omega,if_false,g1]
    exact h3
   ·simp only[if_neg e,if_neg (show¬i+1=k by omega)]
    exact g3 i p (by omega) hp
  ·by_cases e:i=k
   ·subst e
    rw[ho]at hp;cases hp
    simp only[if_true,show¬i+1=i by omega,if_false,g1]
    cases uf:o.dst with
    |none=>simp[sE,h1]
    |some u=>simp only[sE,Bx,Option.some.injEq,h1]
   ·simp only[if_neg e,if_neg (show¬i+1=k by omega)]
    exact g4 i p t (by omega) hp
  ·by_cases e:i=k
   ·subst e
    rw[ho]at hp;cases hp
    exact h2 t hd
   ·exact g5 i p t (by omega) hp hd
  ·by_cases e:i=k
   ·subst e
    rw[ho]at hp;cases hp
    simp only[if_true,show¬i+1=i by omega,if_false,g1]
    exact h5
   ·simp only[if_neg e,if_neg (show¬i+1=k by omega)]
    exact g6 i p (by omega) hp
section
variable {P:Program} {G:List bf} {N M:Nat} {ops:Array Oper} {s:Nat->St} {ks:Nat->List Nat} {val:Nat->D} (hc:VE P G N M ops s ks val)
include hc
theorem EP{i a r ii off:Nat}(hn:lF ops i a=true)(h:look (s ops.size).env a=.ptr r ii off):∀{k:Nat},i<=k->k<=ops.size->look (s k).env a=.ptr r ii off:=by
 intro k oj hk
 obtain⟨n,Rn⟩:∃n,ops.size=k+n:=⟨ops.size-k,by omega⟩
 have:∀n k,i<=k->k+n<=ops.size->look (s (k+n)).env a=.ptr r ii off->look (s k).env a=.ptr r ii off:=by
  intro n
  induction n with
  |zero=>intro k _ _ h;exact h
  |succ n ih=>
   intro k h1 h2 h3
   have ho:ops[k]?=some ops[k]:=aJ (by omega)
   have h4:=ih (k+1) (by omega) (by omega) (by rw[show k+1+n=k+(n+1) by omega];exact h3)
   rw[hc.env k _ a ho,if_neg (Kr hn h1 ho),Ch]at h4
   exact zz h4
 exact this n k oj (by omega) (by rw[<-Rn];exact h)
theorem ER{i a:Nat}(hn:lF ops i a=true)(h:tB (look (s ops.size).env a)=true):∀{k:Nat},i<=k->k<=ops.size->look (s k).env a=look (s ops.size).env a:=by
 intro k oj hk
 obtain⟨n,Rn⟩:∃n,ops.size=k+n:=⟨ops.size-k,by omega⟩
 have:∀n k,i<=k->k+n<=ops.size->∀p,tB p=true->look (s (k+n)).env a=p->look (s k).env a=p:=by
  intro n
  induction n with
  |zero=>intro k _ _ p _ h;exact h
  |succ n ih=>
   intro k h1 h2 p hp h3
   have ho:ops[k]?=some ops[k]:=aJ (by omega)
   have h4:=ih (k+1) (by omega) (by omega) p hp (by rw[show k+1+n=k+(n+1) by omega];exact h3)
   rw[hc.env k _ a ho,if_neg (Kr hn h1 ho),Ch]at h4
   exact Zn3 hp h4
 exact this n k oj (by omega) _ h (by rw[<-Rn])
theorem Zq9(h:mh (s ops.size).env op=some q)(hq:∀a∈q,lF ops i a=true)(h1:i<=k)(h2:k<=ops.size):mh (s k).env op=some q:=
 Zrr h λa ha hs=>ER hc (hq a ha) hs h1 h2
theorem Qys{dr:Nat->Bool}{c:Nat}{t:Nat}:∀{n:Nat},(∀i o,i<n->ops[c+i]?=some o->o.dst=some t->dr (c+i)=false)->ji ops s val dr c n t=look (s c).env t
 |0,_=>rfl
 |n + 1,h=>by
  simp only[ji]
  rw[if_neg]
  ·exact Qys (λi o hi=>h i o (by omega))
  ·rintro⟨g1,g2⟩
   cases hk:ops[c+n]? with
   |none=>rw[hk]at g2;cases g2
   |some o=>
    rw[hk]at g2
    rw[h n o (by omega) hk g2]at g1;cases g1
theorem Zi8{dr:Nat->Bool}{c d:Nat}{t:Nat}(hq:∀(i:Nat) (o:Oper),c<=i->i<d->ops[i]?=some o->lI G o.op=true)(hd:d<=ops.size):∀{n:Nat},c+n<=d->(∀i o,i<n->ops[c+i]?=some o->o.dst=some t->dr (c+i)=true)->ji ops s val dr c n t=look (s (c+n)).env t
 |0,_,_=>rfl
 |n +1,hn,hl=>by
  have ho:ops[c+n]?=some ops[c+n]:=aJ (by omega)
  simp only[ji,ho,aL]
  rw[show c+(n+1)=(c+n)+1 by omega,hc.toChain.Fc ho (hq _ _ (by omega) (by omega) ho) t]
  by_cases tA:ops[c+n].dst=some t
  ·rw[if_pos ⟨hl n _ (by omega) ho tA,tA⟩,if_pos tA]
  ·rw[if_neg (λg=>tA g.2),if_neg tA]
   exact Zi8 hq hd (by omega) (λi o hi=>hl i o (by omega))
theorem Za5{dr:Nat->Bool}{c d:Nat}(hq:∀(i:Nat) (o:Oper),c<=i->i<d->ops[i]?=some o->lI G o.op=true)(hd:d<=ops.size):∀{n:Nat},c+n<=d->(∀i,i<n->dr (c+i)=true\/(s (c+i+1)).rows=(s (c+i)).rows)->∀r,kL s dr c n r=(s (c+n)).rows.getD r none
 |0,_,_,r=>rfl
 |n + 1,hn,hl,r=>by
  simp only[kL]
  rw[show c+(n+1)=c+n+1 by omega]
  have hlen:=KN hc.toChain hq hd (show c<=c+n by omega) (show c+n<=c+n+1 by omega) (by omega)
  have ih:=Za5 hq hd (n:=n) (by omega) (λi hi=>hl i (by omega)) r
  rcases hl n (by omega)with h|h
  ·simp only[h,true_and]
   split
   ·rfl
   ·rw[ih]
    by_cases h2:r<(s (c+n)).rows.length
    ·exact(KO hc.toChain hq hd (by omega) (by omega) (by omega) h2).symm
    ·simp only[aK]
     rw[aM (by omega),aM (by omega)]
  ·rw[if_neg (by rw[h];omega),ih,h]
theorem Zl3{dr:Nat->Bool}{c d:Nat}(hq:∀(i:Nat) (o:Oper),c<=i->i<d->ops[i]?=some o->lI G o.op=true)(hd:d<=ops.size){r:Nat}(hr:r<(s c).rows.length):∀{n:Nat},c+n<=d->kL s dr c n r=(s c).rows.getD r none
 |0,_=>rfl
 |n+1,hn=>by
  simp only[kL]
  have hlen:=KN hc.toChain hq hd (show c<=c by omega) (show c<=c+n by omega) (by omega)
  rw[if_neg (by omega)]
  exact Zl3 hq hd hr (by omega)
end
structure tC(w0:World)(cx:Ctx)(w:World)(b:Nat)(arr:Array Value)(ty:TypeId):Prop where
 jE:w0.heap.size<=b
 lt:b<w.heap.size
 here:w.heap[b]?=some (.cells arr ty (0,0))
 fu:¬cx.I b
 row:∀r row,cx.R r=some row->¬cx.V r->cx.ρ r≠b
theorem tC.cy{ks:List Nat}{ty:TypeId}(h:tC w0 c w b arr ty)(n:jJ ks c w c' w'):tC w0 c' w' b arr ty:=by
 refine⟨h.jE,bI h.lt n.fr.size,(n.fr.heap b h.lt fun⟨r,x,h1,h2,h3⟩=>h.row r x h1 h2 h3).trans h.here,λhb=>?_,λr row hr hv e=>?_⟩
 ·rcases n.fu b hb with g|⟨s,x,_,g1,g2,g3⟩|g
  ·exact h.fu g
  ·exact h.row s x g1 g2 g3
  ·have:=h.lt;omega
 ·rcases n.oy r row hr hv with⟨⟨x,g1⟩,g2,g3⟩|⟨s,x,_,g1,g2,g3⟩|g
  ·exact h.row r x g1 g2 (by rw[<-g3];exact e)
  ·exact h.row s x g1 g2 (by rw[<-g3];exact e)
  ·have:=h.lt;omega
theorem yz(h:o.dst≠some u):(a.put o.dst v).tmps.getD u undef=a.tmps.getD u undef:=by
 cases ho:o.dst with
 |none=>simp[Act.put]
 |some x=>
  have gv:x≠u:=λe=>h (by rw[ho,e])
  simp[Act.put,aQ gv]
theorem xU{dst:Option Tmp}(h:dst=some u)(bz:u<a.tmps.size):(a.put dst v).tmps.getD u undef=v:=by
 subst h
 simp[Act.put,aP,bz]
def M6(P:Program)(ops:Array Oper)(s:Nat->St)(val:Nat->D)(w0:World)(cx:Ctx)(w:World)(a:Act)(i b:Nat):Prop:=
 ∃ o t row arr,ops[i]?=some o/\o.guard=none/\o.op=.alloc t/\VC P o row arr/\val i=.ptr (s i).rows.length 0 0/\(s (i+1)).rows=(s i).rows++[some row]/\tC w0 cx w b arr row.ty/\
  (∀u,o.dst=some u->a.tmps.getD u undef=.pointer (some ⟨b,0,none⟩))/\∀u,o.dst=some u->∀k o',k≠i->ops[k]?=some o'->o'.dst≠some u
theorem M6.cy{ks:List Nat}(h:M6 P ops s val w0 c w a k b)(n:jJ ks c w c' w')(oj:i≠k)(ho:ops[i]?=some o):M6 P ops s val w0 c' w' (a.put o.dst v) k b:=by
 obtain⟨o',t,row,arr,g1,g2,g3,g4,g5,g6,g7,g8,g9⟩:=h
 exact⟨o',t,row,arr,g1,g2,g3,g4,g5,g6,g7.cy n,λu hu=>by rw[yz (g9 u hu i o oj ho)];exact g8 u hu,g9⟩
theorem Qq(hm:Mem c w)(o:Obj):jn c w c (w.alloc o):=
 ⟨rfl,aO _,λb hb=>⟨hb,AK w o b (hm.fu b hb).1⟩,λr x hr=>⟨x,hr,rfl,rfl,rfl,rfl,rfl,Iff.rfl,λnv arr ha=>⟨arr,by rw[AK w o _ (hm.lt hr nv)];exact ha,rfl⟩⟩⟩
theorem Qxw(w:World)(o:Obj):(w.alloc o).heap.size=w.heap.size+1:=by show(w.heap.push o).size=_;simp
theorem Zrb(hm:Mem c w)(o:Obj):Mem c (w.alloc o):=
 ⟨λr row hr=>um (Qq hm o) rfl Iff.rfl (λnv=>AK w o _ (hm.lt hr nv)) (hm.row r row hr),hm.inj,(λb hb=>⟨by have:=(hm.fu b hb).1;rw[Qxw];omega,(hm.fu b hb).2⟩),by have:=hm.top;rw[Qxw];omega,hm.kY.mono (Qq hm o).I⟩
theorem Zk(hk:c.R k=none)(row:Row)(b:Nat):jn c w (c.add k row b) w:=by
 refine⟨rfl,aO _,λb hb=>⟨hb,rfl⟩,λr x hr=>?_⟩
 have gv:r≠k:=λe=>by rw[e,hk]at hr;cases hr
 exact⟨x,by simp[Ctx.add,gv,hr],rfl,rfl,rfl,rfl,by simp[Ctx.add,gv],by simp[Ctx.add,gv],λnv arr ha=>⟨arr,ha,rfl⟩⟩
theorem qaA(hm:Mem c w)(hk:c.R k=none)(hA:VC P o row arr)(hl:tC w0 c w b arr row.ty):Mem (c.add k row b) w:=by
 have hg:=Zk (w:=w) hk row b
 have jE:∀r x,r≠k->(c.add k row b).R r=some x->c.R r=some x/\(c.add k row b).ρ r=c.ρ r/\((c.add k row b).V r↔c.V r):=λr x e h=>⟨by simpa[Ctx.add,e]using h,by simp[Ctx.add,e],by simp[Ctx.add,e]⟩
 refine⟨λr x hr=>?_,λr s x y hr hs v1 v2 he=>?_,λb' hb=>⟨(hm.fu b' hb).1,λr x hr v=>?_⟩,hm.top,hm.kY⟩
 ·by_cases e:r=k
  ·subst e
   simp only[Ctx.add,if_true,Option.some.injEq]at hr
   subst hr
   obtain⟨e,h1,h2,h3,h4⟩:=hA.cells
   refine .inr ⟨by simp[Ctx.add],arr,by simp only[Ctx.add,if_true];exact hl.here,hA.sz,?_⟩
   rw[if_pos hA.box]
   exact⟨e,h1,h2,h3,h4 _ _⟩
  ·obtain⟨g1,g2,g3⟩:=jE r x e hr
   exact um hg g2 g3 (λ_=>rfl) (hm.row r x g1)
 ·by_cases e1:r=k<;>by_cases e2:s=k
  ·rw[e1,e2]
  ·obtain⟨g1,g2,g3⟩:=jE s y e2 hs
   exfalso
   refine hl.row s y g1 (λe=>v2 (g3.2 e)) ?_
   rw[<-g2,<-he,e1];simp[Ctx.add]
  ·obtain⟨g1,g2,g3⟩:=jE r x e1 hr
   exfalso
   refine hl.row r x g1 (λe=>v1 (g3.2 e)) ?_
   rw[<-g2,he,e2];simp[Ctx.add]
  ·obtain⟨g1,g2,g3⟩:=jE r x e1 hr
   obtain⟨k1,k2,k3⟩:=jE s y e2 hs
   exact hm.inj r s x y g1 k1 (λe=>v1 (g3.2 e)) (λe=>v2 (k3.2 e)) (by rw[<-g2,<-k2];exact he)
 ·by_cases e:r=k
  ·subst e
   simp only[Ctx.add,if_true]
   intro e;subst e
   exact hl.fu hb
  ·obtain⟨g1,g2,g3⟩:=jE r x e hr
   rw[g2];exact(hm.fu b' hb).2 r x g1 (λe=>v (g3.2 e))
def RC(ops:Array Oper)(env:List (Nat×D))(i:Nat)(o:Oper):Prop:=∃td,o.dst=some td/\lF ops (i+1) td=true/\pQ (look env td)=true
def RD(ops:Array Oper)(s:Nat->St)(ks:Nat->List Nat)(i c:Nat):Prop:=
 (∃o t a r ii off row ao,ops[i]?=some o/\o.guard=none/\o.op=.load t (.tmp a)/\lF ops i a=true/\look (s ops.size).env a=.ptr r ii off/\(s i).rows.getD r none=some row/\(s c).rows.getD r none=some ao/\((ao=row/\∀k,i<k->k<c->ks k=[])\/(RC ops (s ops.size).env i o/\∃L:List (List Nat),ao=L.foldl (λr k=>Row.kill k r) row/\∀kk∈L,∃j,i<j/\j<c/\kk=ks j)))\/
 (∃o q,ops[i]?=some o/\o.guard=none/\mh (s ops.size).env o.op=some q/\(∀a∈q,lF ops i a=true)/\((∀k,i<k->k<c->ks k=[])\/Ks ops (s ops.size).env i o q))
structure Inv2(P:Program)(G:List bf)(N M:Nat)(ops:Array Oper)(s:Nat->St)(ks:Nat->List Nat)(val:Nat->D)(c0:Ctx)(w0:World)(dr:Nat->Bool)(a:Act)(w:World)(c d:Nat):Prop where
 cd:c<=d
 dn:d<=ops.size
 pre:∀i,i<c->dr i=true\/RD ops s ks i c
 quiet:∀(i:Nat) (o:Oper),c<=i->i<d->ops[i]?=some o->lI G o.op=true
 wr:∀(o:Oper),ops[d]?=some o->lI G o.op=false
 closed:∀j,dr j=true->∀(o:Oper),ops[j]?=some o->∀e∈o.after,Region.binds .any e=true->dr e.on=true
 size:N<=a.tmps.size
 defers:mo w0.heap.size w a.defers
 gh:c0.base<=w0.heap.size
 gy:∀r row,c0.R r=some row->r<M
 ctx:∃(cx:Ctx) (B:Nat->Nat),Mem cx w/\(∀r,cx.R r=kL s dr c (d-c) r)/\(∀t,(∀k o,k<c->dr k=false->ops[k]?=some o->o.dst≠some t)->(∀k o,d<=k->dr k=true->ops[k]?=some o->o.dst≠some t)->Rep cx w (ji ops s val dr c (d-c) t) (a.tmps.getD t undef))/\Aw c0 w0 cx w/\
  (∀i,d<=i->dr i=true->M6 P ops s val w0 cx w a i (B i))/\(∀i j,d<=i->d<=j->dr i=true->dr j=true->B i=B j->i=j)
theorem VF{t:Nat}(hs:N<=a.tmps.size)(hd:∀u,o.dst=some u->u<N)(h1:o.dst=some t->Rep c' w' d v)(h2:o.dst≠some t->Rep c' w' d (a.tmps.getD t undef)):Rep c' w' d ((a.put o.dst v).tmps.getD t undef):=by
 cases ho:o.dst with
 |none=>simpa[Act.put]using h2 (by rw[ho];simp)
 |some u=>
  by_cases e:u=t
  ·subst e
   have hu:u<a.tmps.size:=bI (hd u ho) hs
   simpa[Act.put,aP,hu]using h1 ho
  ·have:=h2 (by rw[ho];intro h;exact e (Option.some.inj h))
   simpa[Act.put,aQ e]using this
theorem RE{ks:Nat->List Nat}(hc:VE P G N M ops s ks val){c d:Nat}
 (hq:∀(i:Nat) (o:Oper),c<=i->i<d->ops[i]?=some o->lI G o.op=true) (hd:d<=ops.size)
 (h:∃(cx:Ctx) (B:Nat->Nat),Mem cx w/\(∀r,cx.R r=(s c).rows.getD r none)/\(∀t,(∀k o,k<c->dr k=false->ops[k]?=some o->o.dst≠some t)->(∀k o,c<=k->dr k=true->ops[k]?=some o->o.dst≠some t)->Rep cx w (look (s c).env t) (a.tmps.getD t undef))/\Aw c0 w0 cx w/\
  (∀i,c<=i->dr i=true->M6 P ops s val w0 cx w a i (B i))/\(∀i j,c<=i->c<=j->dr i=true->dr j=true->B i=B j->i=j)):
 ∀ n,c+n<=d->∃(cx:Ctx) (B:Nat->Nat),Mem cx w/\(∀r,cx.R r=kL s dr c n r)/\(∀t,(∀k o,k<c->dr k=false->ops[k]?=some o->o.dst≠some t)->(∀k o,c+n<=k->dr k=true->ops[k]?=some o->o.dst≠some t)->Rep cx w (ji ops s val dr c n t) (a.tmps.getD t undef))/\Aw c0 w0 cx w/\
  (∀i,c+n<=i->dr i=true->M6 P ops s val w0 cx w a i (B i))/\(∀i j,c+n<=i->c+n<=j->dr i=true->dr j=true->B i=B j->i=j):=by
 have hlen:∀k l,c<=k->k<=l->l<=d->(s k).rows.length<=(s l).rows.length:=λk l h1 h2 h3=>KN hc.toChain hq hd h1 h2 h3
 have RG:∀n,c+n<=d->∀r,(s (c+n)).rows.length<=r->kL s dr c n r=none:=by
  intro n
  induction n with
  |zero=>intro _ r hr;simp only[kL];simp only[bG]at hr;rw[aK,aM hr];rfl
  |succ n ih=>
   intro hn r hr
   simp only[kL]
   have:=hlen (c+n) (c+n+1) (by omega) (by omega) (by omega)
   rw[show c+(n+1)=c+n+1 by omega]at hr
   rw[if_neg (by omega)]
   exact ih (by omega) r (by omega)
 intro n
 induction n with
 |zero=>intro _;simpa only[kL,ji,bG]using h
 |succ n ih=>
  intro hn
  obtain⟨cx,B,hm,hR,hE,oi,nW,oO⟩:=ih (by omega)
  cases hl:dr (c+n)with
  |false=>
   refine⟨cx,B,hm,λr=>?_,λt ht he=>?_,oi,λi hi HE=>nW i (by omega) HE,λi j hi hj=>oO i j (by omega) (by omega)⟩
   ·simp only[kL,hl,aN,false_and,if_false];exact hR r
   ·simp only[ji,hl,aN,false_and,if_false]
    refine hE t ht λk o hk oR=>he k o ?_ oR
    by_cases e:k=c+n
    ·rw[e,hl]at oR;cases oR
    ·omega
  |true=>
   obtain⟨o,ty,row,arr,g1,g2,g3,g4,g5,g6,g7,g8,g9⟩:=nW (c+n) (aO _) hl
   have hk:cx.R (s (c+n)).rows.length=none:=by rw[hR];exact RG n (by omega) _ (aO _)
   have hg:=Zk (w:=w) hk row (B (c+n))
   refine⟨cx.add (s (c+n)).rows.length row (B (c+n)),B,qaA hm hk g4 g7,λr=>?_,λt ht he=>?_,⟨oi.cg.trans hg,oi.fr,oi.fu,λr x hr hv=>?_,oi.xb⟩,λi hi HE=>?_,λi j hi hj=>oO i j (by omega) (by omega)⟩
   ·simp only[kL,hl,true_and,g6,lA,List.length_singleton]
    by_cases e:r=(s (c+n)).rows.length
    ·subst e
     rw[if_pos ⟨aO _,Nat.lt_succ_self _⟩]
     simp[Ctx.add,aK]
    ·rw[if_neg (by omega)]
     simp only[Ctx.add,if_neg e];exact hR r
   ·simp only[ji,hl,true_and,g1,aL]
    split
    ·rename_i uf
     rw[g8 t uf,g5]
     obtain⟨e,q1,_⟩:=g4.cells
     exact⟨row,(Ctx.jf _ _ _ _).1,by simp[Ctx.add],by rw[q1];simp[ak.l],by simp[(Ctx.jf _ _ _ _).2]⟩
    ·rename_i uf
     refine Ax hg (hE t ht λk o' Fb oR dz=>?_)
     by_cases e:k=c+n
     ·subst e;rw[g1]at dz;cases dz;exact uf
     ·exact he k o' (by omega) oR dz
   ·by_cases e:r=(s (c+n)).rows.length
    ·right;right
     rw[e];simp only[Ctx.add,if_true];exact g7.jE
    ·have nF:cx.R r=some x:=by simpa[Ctx.add,e]using hr
     have MS:¬cx.V r:=by simpa[Ctx.add,e]using hv
     have:=oi.oy r x nF MS
     simpa only[Ctx.add,if_neg e]using this
   ·obtain⟨o',t',ao,iQ,f1,f2,f3,f4,f5,f6,f7,f8,f9⟩:=nW i (by omega) HE
    refine⟨o',t',ao,iQ,f1,f2,f3,f4,f5,f6,⟨f7.jE,f7.lt,f7.here,f7.fu,λr x hr hv e'=>?_⟩,f8,f9⟩
    by_cases e:r=(s (c+n)).rows.length
    ·rw[e]at e'
     simp only[Ctx.add,if_true]at e'
     have:=oO (c+n) i (aO _) (by omega) hl HE e'
     omega
    ·exact f7.row r x (by simpa[Ctx.add,e]using hr) (by simpa[Ctx.add,e]using hv) (by simpa only[Ctx.add,if_neg e]using e')
section
variable {P:Program} {G:List bf} {N M:Nat} {ops:Array Oper} {s:Nat->St} {ks:Nat->List Nat} {val:Nat->D} (hc:VE P G N M ops s ks val) (mU:RB G ops (s ops.size).env=true)
include hc mU
theorem vz {c0 :Ctx}{dr gk:Nat->Bool}{c d i:Nat}(hI:Inv2 P G N M ops s ks val c0 w0 dr a w c d)(ho:ops[i]? =some o)(h0:dr i=false)(h1:gk i=true)(h2: ∀k,k≠i->gk k=dr k)
    (Nw: ∀e∈o.after,Region.binds .any e=true->dr e.on=true) {K:Act->World->Prop} {Q:Exit->Act->World->Prop} (hK: ∀a' w' c' d',Inv2 P G N M ops s ks val c0 w0 gk a' w' c' d'->K a' w'):wpOp P ops Q i K a w:=by
  have bz:=(Array.getElem?_eq_some_iff.1 ho).1
  have ry: ∀k,((Region.before ops).getD i 0).testBit k=true->dr k=true:=λk hk=>
    SM (listed:=λk=>dr k=true) hI.closed (λo' jd=>by rw[ho]at jd;cases jd;exact Nw) hk
  have oh: ∀j k,dr j=true->((Region.before ops).getD j 0).testBit k=true->dr k=true:=λj k hj hk=>
    SM (listed:=λk=>dr k=true) hI.closed (hI.closed j hj) hk
  have ug: ∀j,gk j=true-> ∀(o:Oper),ops[j]? =some o-> ∀e∈o.after,Region.binds .any e=true->gk e.on=true:=by
    intro j hj o' jd e he hb
    have gv:dr e.on=true:=by
      by_cases e':j=i
      . subst e';rw[ho]at jd;cases jd;exact Nw e he hb
      . rw[h2 j e']at hj;exact hI.closed j hj o' jd e he hb
    rw[h2 e.on (λe'=>by rw[e',h0]at gv;cases gv)]
    exact gv
  have DY: ∀{x:Oper} {t:TypeId} {y:Operand},x.op= .load t y->lI G x.op=true:=λh=>by rw[h];rfl
  have hpu: ∀{x:Oper} {env:List (Nat×D)} {q:List Nat},mh env x.op=some q->lI G x.op=true:=λh=>by
    unfold lI;rw[(Z54 (G:=G) h).1];rfl
  have HD: ∀{x:Oper} {t:TypeId},x.op= .alloc t->lI G x.op=true:=λh=>by rw[h];rfl
  obtain⟨cx,B,hm,hR,hE,oi,nW,oO⟩:=hI.ctx
  have Gd:dr d=false:=by
    cases hl:dr d with
    |false=>rfl
    | true=>
      obtain⟨o',t,_,_,g1,_,g3,_⟩:=nW d (aO _) hl
      have:=hI.wr _ g1
      rw[HD g3]at this;cases this
  have hid:i<=d\/(d<i/\(∃t,o.guard=none/\o.op= .alloc t)/\ ∀u,o.dst=some u-> ∀k o',k≠i->ops[k]? =some o'->o'.dst≠some u):=by
    by_cases h:i<=d
    . exact .inl h
    . right
      have BV:ops[d]? =some ops[d]:=aJ (by omega)
      have:=(Gp mU (show d<i by omega) BV ho).2
      rcases this with⟨hq,_⟩|hb|hb|hb
      . rw[hI.wr _ BV]at hq;cases hq
      . have:=ry d hb
        rw[Gd]at this;cases this
      . rcases Rz BV ho hb with⟨t,b,t',b',z,r,r',ii,off,mv,iR,g1,g2,g3,_⟩|⟨q,g1,g2,g3,_⟩|⟨q,g1,g3,_⟩|⟨_,_,_,_,_,_,_,_,_,g1,g2,g3,_⟩|⟨_,_,_,_,_,_,_,_,g1,g2,g3,_⟩
        . have:=DY g3
          rw[hI.wr _ BV]at this;cases this
        . have:=hpu g3
          rw[hI.wr _ BV]at this;cases this
        . have:=hpu (VD (env:=[]) g3)
          rw[hI.wr _ BV]at this;cases this
        . have:=DY g3
          rw[hI.wr _ BV]at this;cases this
        . have:=DY g3
          rw[hI.wr _ BV]at this;cases this
      . exact⟨by omega,hb⟩
  have WM:=hI.cd
  have Iv:=hI.dn
  have jm:cx.base<=w.heap.size:=by rw[oi.cg.base];exact Nat.le_trans hI.gh oi.fr.size
  have seen: ∀k o' t,k<i->ops[k]? =some o'->o'.dst=some t->t∈o.looksAt ops->dr k=true:=by
    intro k o' t hk jd hd ht
    rcases(Gp mU hk jd ho).1 with uh|hb
    . exact((Gx uh).2.1 hd ht).elim
    . exact ry _ hb
  have DI: ∀k o' t,d<=k->dr k=true->ops[k]? =some o'->t∈o.looksAt ops->i<=d->o'.dst≠some t:=by
    intro k o' t hk hl jd ht hid hd
    have oj:i<k:=by
      by_cases e:k=i
      . rw[e,h0]at hl;cases hl
      . omega
    rcases(Gp mU oj ho jd).1 with uh|hb
    . exact(Gx uh).2.2 hd ht
    . have:=oh _ _ hl hb
      rw[h0]at this;cases this
  rcases hid with hid|⟨hdi,⟨t0,hg0,ho0⟩,KT⟩
  rotate_left
  ·
    obtain⟨hks,row,arr,hA,hv,c6⟩:=(hc.mO i o ho).al t0 hg0 ho0
    unfold wpOp
    simp only[ho]
    have hw:Region.wanted o (yielded ops a.tmps)=true:=by simp [Region.wanted,hg0]
    rw[if_pos hw]
    refine Qk (hA.run a.eval w) ?_
    have hmn:=Zrb hm (.cells arr row.ty)
    have wN:=Qq hm (.cells arr row.ty)
    have hn:jJ [] cx w cx (w.alloc (.cells arr row.ty)):=lY.toK ⟨hmn,wN,Fr.alloc _ w _,λb hb=> .inl hb,λr row hr v=> .inl ⟨⟨row,hr⟩,v,rfl⟩⟩
    refine hK _ _ c d ⟨hI.cd,hI.dn,λk hk=>by rw[h2 k (by omega)];exact hI.pre k hk,hI.quiet,hI.wr,ug,?_,?_,hI.gh,hI.gy,cx,λk=>if k=i then w.heap.size else B k,hmn,λr=> ?_,λt ht he=> ?_,oi.step (ks:=[]) (λk hk=>by simp [cf]at hk) hI.gy hn,λk hdk hl=> ?_,λk j hk hj oR Bg e=> ?_⟩
    . cases hd:o.dst<;>simp [Act.put]<;>exact hI.size
    . first|exact mo.put (hI.defers.step hm hn.fr)|exact mo.put (hI.defers.step hm hn.toW.fr)
    . rw[hR,SS (λk hk=>h2 _ (by omega))]
    . rw[SR (λk hk=>h2 _ (by omega))]
      refine VF hI.size (λu=>hc.dst i o u ho) (λhd=>(he i o (by omega) h1 ho hd).elim) (λhd=> ?_)
      exact Ax wN (hE t (λk o' hk hl dz=>ht k o' hk (by rw[h2 k (by omega)];exact hl) dz) (λk o' hk hl dz=>he k o' hk (by rw[h2 k (λe'=>by rw[e',h0]at hl;cases hl)];exact hl) dz))
    . by_cases e:k=i
      . subst e
        simp only[if_true]
        exact⟨o,t0,row,arr,ho,hg0,ho0,hA,hv,c6,⟨oi.fr.size,by rw[Qxw];omega,U8 w _,λhb=>by have:=(hm.fu _ hb).1;omega,λr ao hr MS e=>by have:=hm.lt hr MS;omega⟩,λu hu=>xU hu (bI (hc.dst k o u ho hu) hI.size),KT⟩
      . simp only[if_neg e]
        rw[h2 k e]at hl
        exact(nW k hdk hl).cy hn (Ne.symm e) ho
    . have key: ∀k,d<=k->gk k=true->k≠i->B k<w.heap.size:=λk hk oR e=>by
        rw[h2 k e]at oR
        obtain⟨_,_,_,_,_,_,_,_,_,_,g7,_⟩:=nW k hk oR
        exact g7.lt
      by_cases e1:k=i<;>by_cases e2:j=i
      . rw[e1,e2]
      . simp only[if_pos e1,if_neg e2]at e
        have:=key j hj Bg e2;omega
      . simp only[if_neg e1,if_pos e2]at e
        have:=key k hk oR e1;omega
      . simp only[if_neg e1,if_neg e2]at e
        exact oO k j hk hj (by rw[<-h2 k e1];exact oR) (by rw[<-h2 j e2];exact Bg) e
  by_cases pU:c<=i
  . by_cases e:i=d
    ·
      subst e
      have iU: ∀k o',c<=k->k<i->ops[k]? =some o'->dr k=true\/M5 G ops (s ops.size).env k i=true:=λk o' om rW dz=>by
        rcases(Gp mU rW dz ho).2 with⟨_,hq⟩|hb|hb|⟨⟨t4,_,g4⟩,_⟩
        . rw[hI.wr _ ho]at hq;cases hq
        . exact .inl (ry _ hb)
        . exact .inr hb
        . have:=hI.wr _ ho
          rw[HD g4]at this;cases this
      have hnr: ∀k o',c<=k->k<i->ops[k]? =some o'->M5 G ops (s ops.size).env k i=true->(s (k+1)).rows=(s k).rows:=λk o' om rW dz hb=>by
        rcases Rz dz ho hb with⟨t,b,t',b',z,r,r',ii,off,mv,iR,g1,g2,g3,g4,g5,g6,g7,g8,g9⟩|⟨q,g1,g2,g3,g4,_⟩|⟨q,g1,g3,_⟩|⟨t,b,r,ii,off,_,_,_,_,g1,g2,g3,g5,g7,_⟩|⟨t,b,r,ii,off,_,_,_,g1,g2,g3,g5,g7,_⟩
        . exact((hc.mO k o' dz).ld t b r ii off g1 g3 (EP hc g5 g7 (aO _) (by omega))).2.1
        . exact((hc.mO k o' dz).pu q g1 (Zq9 hc g3 g4 (aO _) (by omega))).2.1
        . exact((hc.mO k o' dz).pu q g1 (VD g3)).2.1
        . exact((hc.mO k o' dz).ld t b r ii off g1 g3 (EP hc g5 g7 (aO _) (by omega))).2.1
        . exact((hc.mO k o' dz).ld t b r ii off g1 g3 (EP hc g5 g7 (aO _) (by omega))).2.1
      have c6: ∀r,cx.R r=(s i).rows.getD r none:=λr=>by
        rw[hR,Za5 hc hI.quiet Iv (by omega) (λk hk=>by
          have dz:ops[c+k]? =some ops[c+k]:=aJ (by omega)
          rcases iU (c+k) _ (by omega) (by omega) dz with h|h
          . exact .inl h
          . exact .inr (hnr (c+k) _ (by omega) (by omega) dz h)),show c+(i-c)=i by omega]
      have tz: ∀t,(∀k o',k<i->dr k=false->ops[k]? =some o'->o'.dst≠some t)->(∀k o',i<=k->dr k=true->ops[k]? =some o'->o'.dst≠some t)->Rep cx w (look (s i).env t) (a.tmps.getD t undef):=λt ht he=>by
        have:=hE t (λk o' hk=>ht k o' (by omega)) he
        rwa [Zi8 hc hI.quiet Iv (by omega) (λk o' hk dz hd=>by
          cases hl:dr (c+k) with
          |true=>rfl
          |false=>exact(ht _ _ (by omega) hl dz hd).elim),show c+(i-c)=i by omega]at this
      refine xaz (M:=M) ho hm jm c6 (λt ht=>tz t (λk o' hk hl dz hd=>by rw[seen k o' t hk dz hd ht]at hl;cases hl) (λk o' hk hl dz=>DI k o' t hk hl dz ht (aO _))) (hc.op i o ho) λv w' c' hM hn j7 hv=> ?_
      obtain⟨d',g1,g2,g3,g4⟩:=Nv G ops _ (i+1) rfl (by omega)
      have cy: ∀k o' t b r ii off row,k<i->ops[k]? =some o'->dr k=false->o'.guard=none->o'.op= .load t (.tmp b)->lF ops k b=true->look (s ops.size).env b= .ptr r ii off->(s i).rows.getD r none=some row->(ks i=[]/\(s (i+1)).rows.getD r none=some row)\/(RC ops (s ops.size).env k o'/\(s (i+1)).rows.getD r none=some (row.kill (ks i))):=by
        intro k o' t b r ii off row hk dz hl q1 q2 q3 q4 q5
        rcases(Gp mU hk dz ho).2 with⟨_,hq⟩|hb|hb|⟨⟨t4,_,g4⟩,_⟩
        rotate_right
        . have:=hI.wr _ ho
          rw[HD g4]at this;cases this
        . rw[hI.wr _ ho]at hq;cases hq
        . rw[ry _ hb]at hl;cases hl
        . rcases Rz dz ho hb with⟨t1,b1,t',b',z,r1,r',RH,DJ,mv,iR,p1,p2,p3,p4,p5,p6,p7,p8,p9⟩|⟨q,p1,p2,p3,_⟩|⟨q,p1,p3,_⟩|⟨t1,b1,r1,RH,DJ,args,dh,x0,l0,p1,p2,p3,p4,p5,p6,p7,p8,p9⟩|⟨t1,b1,r1,RH,DJ,args,dh,td,p1,p2,p3,p4,p5,p6,p7,p8,p9⟩
          . rw[q2]at p3;cases p3
            rw[q4]at p7;cases p7
            obtain⟨f1,f2⟩:=(hc.mO i o ho).st t' b' z r' mv iR p2 p4 (EP hc p6 p8 (by omega) (by omega))
            exact .inl ⟨f1,by rw[f2 r p9];exact q5⟩
          . rw[q2]at p3;simp [mh,pR,cb,q4]at p3
          . rw[q2]at p3;cases p3
          . obtain⟨f1,f2⟩:=(hc.mO i o ho).ap args dh x0 l0 p2 p6 p7 (by rw[ER hc p8 (Zfk p9) (by omega) (by omega)];exact p9)
            exact .inl ⟨f1,f2 r row q5⟩
          . refine .inr ⟨⟨td,p7,p8,p9⟩,(hc.mO i o ho).ap2 args dh p2 p6 r row q5 ?_⟩
            have e1:=EP hc q3 q4 (show k<=i by omega) (by omega)
            have e2:=EP hc q3 q4 (show k<=i+1 by omega) (by omega)
            rw[hc.env i o b ho,if_neg (Kr q3 (by omega) ho),Ch,e1]at e2
            cases hb:cf r (ks i) with
            |false=>rfl
            |true=>simp [D.gr,D.kill,D.ez,hb]at e2
      have H8: ∀k o' q,k<i->ops[k]? =some o'->dr k=false->mh (s ops.size).env o'.op=some q->ks i=[]\/Ks ops (s ops.size).env k o' q:=by
        intro k o' q hk dz hl hq
        rcases(Gp mU hk dz ho).2 with⟨_,Gn⟩|hb|hb|⟨⟨t4,_,g4⟩,_⟩
        rotate_right
        . have:=hI.wr _ ho
          rw[HD g4]at this;cases this
        . rw[hI.wr _ ho]at Gn;cases Gn
        . rw[ry _ hb]at hl;cases hl
        . rcases Rz dz ho hb with⟨t1,b1,t',b',z,r1,r',RH,DJ,mv,iR,p1,p2,p3,p4,p5,p6,p7,p8⟩|⟨q,p1,p2,p3,p4,p5⟩|⟨q',p1,p3,p4⟩|⟨t1,b1,r1,RH,DJ,args,dh,x0,l0,p1,p2,p3,p4,p5,_⟩|⟨t1,b1,r1,RH,DJ,args,dh,td,p1,p2,p3,p4,p5,_⟩
          rotate_right
          . rw[p3]at hq;simp [mh,pR,cb,p5]at hq
          rotate_right
          . rw[p3]at hq;simp [mh,pR,cb,p5]at hq
          . rw[p3]at hq;simp [mh,pR,cb,p7]at hq
          . rcases p5 with⟨t',b',z,r',mv,iR,p5,p6,p7⟩|⟨f,args,dh,p5,p6⟩
            . exact .inl ((hc.mO i o ho).st t' b' z r' mv iR p2 p5 (EP hc p6 p7 (by omega) (by omega))).1
            . exact .inl ((hc.mO i o ho).cl f args dh p2 p5 p6)
          . rw[VD p3]at hq;cases hq
            exact .inr p4
      have Gq: ∀k,c<=k->k<i->ks k=[]:=λk om rW=>by
        have dz:ops[k]? =some ops[k]:=aJ (by omega)
        exact(WA (hc.op k _ dz) (hI.quiet k _ om rW dz)).1
      have RI: ∀t,(∀k o,k<i+1->gk k=false->ops[k]? =some o->o.dst≠some t)->(∀k o,i+1<=k->gk k=true->ops[k]? =some o->o.dst≠some t)->Rep c' w' (look (s (i+1)).env t) ((a.put o.dst v).tmps.getD t undef):=by
        intro t ht he
        rw[hc.env i o t ho]
        refine VF hI.size (λu=>hc.dst i o u ho) (λhd=>by rw[if_pos hd];exact hv) (λhd=> ?_)
        rw[if_neg hd,Ch]
        refine Ax hn.cg (W3 (tz t (λk o' hk hl dz=> ?_) (λk o' hk hl dz=> ?_)))
        . exact ht k o' (by omega) (by rw[h2 k (by omega)];exact hl) dz
        . have gv:k≠i:=λe'=>by rw[e',h0]at hl;cases hl
          exact he k o' (by omega) (by rw[h2 k gv];exact hl) dz
      refine hK _ w' (i+1) d' ⟨g1,g2,λk hk=> ?_,g3,g4,ug,?_,?_,hI.gh,hI.gy,by
        have:=RE hc (c0:=c0) (w0:=w0) (w:=w') (dr:=gk) (a:=a.put o.dst v) (c:=i+1) (d:=d') g3 g2 ⟨c',B,hn.mem,j7,RI,oi.step hM hI.gy hn,λk hk oR=>(nW k (by omega) (by rw[<-h2 k (by omega)];exact oR)).cy hn (by omega) ho,λk j hk hj oR Bg e=>oO k j (by omega) (by omega) (by rw[<-h2 k (by omega)];exact oR) (by rw[<-h2 j (by omega)];exact Bg) e⟩ (d'-(i+1)) (by omega)
        rwa [show i+1+(d'-(i+1))=d' by omega]at this⟩
      . by_cases e' : k=i
        . rw[e'];exact .inl h1
        . rw [h2 k e']
          cases hl:dr k with
          |true=>exact .inl rfl
          | false =>
            right
            by_cases WD:k<c
            . rcases hI.pre k WD with h|h
              . rw[hl]at h;cases h
              . rcases h with h|⟨o',q,q1,q2,q3,q4,q8⟩
                rotate_left
                . rcases q8 with q8|q8
                  rotate_left
                  . exact .inr ⟨o',q,q1,q2,q3,q4, .inr q8⟩
                  rcases H8 k o' q (by omega) q1 hl q3 with f1|f1
                  rotate_left
                  . exact .inr ⟨o',q,q1,q2,q3,q4, .inr f1⟩
                  refine .inr ⟨o',q,q1,q2,q3,q4, .inl λk' om rW=> ?_⟩
                  by_cases KU:k'<c
                  . exact q8 k' om KU
                  . by_cases Eu:k'<i
                    . exact Gq k' (by omega) Eu
                    . rw[show k'=i by omega];exact f1
                obtain⟨o',t,b,r,ii,off,row,ao,q1,q2,q3,q4,q5,q6,q7,q8⟩:=h
                have rO:r<(s c).rows.length:=by
                  by_cases hh:r<(s c).rows.length
                  . exact hh
                  . simp only[aK,aM (show(s c).rows.length<=r by omega)]at q7;cases q7
                have iw:=KO hc.toChain hI.quiet Iv (aO c) pU (aO i) rO
                rcases cy k o' t b r ii off ao (by omega) q1 hl q2 q3 q4 q5 (by rw[iw];exact q7) with⟨f1,f2⟩|⟨f1,f2⟩
                . rcases q8 with⟨e8,q8⟩|q8
                  . refine .inl ⟨o',t,b,r,ii,off,row,ao,q1,q2,q3,q4,q5,q6,f2, .inl ⟨e8,λk' om rW=> ?_⟩⟩
                    by_cases KU:k'<c
                    . exact q8 k' om KU
                    . by_cases Eu:k'<i
                      . exact Gq k' (by omega) Eu
                      . rw[show k'=i by omega];exact f1
                  . exact .inl ⟨o',t,b,r,ii,off,row,ao,q1,q2,q3,q4,q5,q6,f2, .inr ⟨q8.1,q8.2.elim λL hL=>⟨L,hL.1,λkk hk=>(hL.2 kk hk).elim λj hj=>⟨j,hj.1,by omega,hj.2.2⟩⟩⟩⟩
                . refine .inl ⟨o',t,b,r,ii,off,row,_,q1,q2,q3,q4,q5,q6,f2, .inr ⟨f1,?_⟩⟩
                  rcases q8 with⟨e8,_⟩|⟨_,L,e8,hL⟩
                  . exact⟨[ks i],by rw[e8];rfl,λkk hk=>⟨i,by omega,by omega,List.mem_singleton.1 hk⟩⟩
                  . refine⟨L++[ks i],by rw[List.foldl_append,<-e8];rfl,λkk hk=> ?_⟩
                    rcases List.mem_append.1 hk with hk|hk
                    . obtain⟨j,j1,j2,j3⟩:=hL kk hk
                      exact⟨j,j1,by omega,j3⟩
                    . exact⟨i,by omega,by omega,List.mem_singleton.1 hk⟩
            . have dz:ops[k]? =some ops[k]:=aJ (by omega)
              rcases iU k _ (by omega) (by omega) dz with h|h
              . rw[hl]at h;cases h
              . have go: ∀t b r ii off,ops[k].guard=none->ops[k].op= .load t (.tmp b)->lF ops k b=true->look (s ops.size).env b= .ptr r ii off->RD ops s ks k (i+1):=by
                  intro t b r ii off p1 p3 p5 p7
                  obtain⟨row,cq⟩:=((hc.mO k _ dz).ld t b r ii off p1 p3 (EP hc p5 p7 (aO _) (by omega))).2.2.1
                  have rO:r<(s k).rows.length:=by
                    by_cases hh:r<(s k).rows.length
                    . exact hh
                    . simp only[aK,aM (show(s k).rows.length<=r by omega)]at cq;cases cq
                  have iw:=KO hc.toChain hI.quiet Iv (show c<=k by omega) (show k<=i by omega) (aO i) rO
                  rcases cy k _ t b r ii off row (by omega) dz hl p1 p3 p5 p7 (by rw[iw];exact cq) with⟨f1,f2⟩|⟨f1,f2⟩
                  rotate_left
                  . exact .inl ⟨_,t,b,r,ii,off,row,_,dz,p1,p3,p5,p7,cq,f2, .inr ⟨f1,[ks i],rfl,λkk hk=>⟨i,by omega,by omega,List.mem_singleton.1 hk⟩⟩⟩
                  refine .inl ⟨_,t,b,r,ii,off,row,row,dz,p1,p3,p5,p7,cq,f2, .inl ⟨rfl,λk' om rW=> ?_⟩⟩
                  by_cases Eu:k'<i
                  . exact Gq k' (by omega) Eu
                  . rw[show k'=i by omega];exact f1
                rcases Rz dz ho h with⟨t,b,t',b',z,r,r',ii,off,mv,iR,p1,p2,p3,p4,p5,p6,p7,p8,p9⟩|⟨q,p1,p2,p3,p4,p5⟩|⟨q,p1,p3,p4⟩|⟨t,b,r,ii,off,_,_,_,_,p1,p2,p3,p5,p7,_⟩|⟨t,b,r,ii,off,_,_,_,p1,p2,p3,p5,p7,_⟩
                rotate_right
                . exact go t b r ii off p1 p3 p5 p7
                rotate_left 2
                rotate_left
                . exact go t b r ii off p1 p3 p5 p7
                rotate_right
                . exact .inr ⟨_,q,dz,p1,VD p3,λa ha=>(p4.1 a ha).1, .inr p4⟩
                rotate_left
                . rcases H8 k _ q (by omega) dz hl p3 with f1|f1
                  rotate_left
                  . exact .inr ⟨_,q,dz,p1,p3,p4, .inr f1⟩
                  refine .inr ⟨_,q,dz,p1,p3,p4, .inl λk' om rW=> ?_⟩
                  by_cases Eu:k'<i
                  . exact Gq k' (by omega) Eu
                  . rw[show k'=i by omega];exact f1
                exact go t b r ii off p1 p3 p5 p7
      . cases hd:o.dst<;>simp [Act.put]<;>exact hI.size
      . first|exact mo.put (hI.defers.step hm hn.fr)|exact mo.put (hI.defers.step hm hn.toW.fr)
    ·
      have It:i<d:=by omega
      have hq:=hI.quiet i o pU It ho
      have Nx:=Wz hq
      have Ny: ∀t∈o.looksAt ops,Rep cx w (look (s i).env t) (a.tmps.getD t undef):=λt ht=>by
        have Iu : ∀n,c+n<=d->ji ops s val dr c n t=if c+n<=i then look (s (c+n)).env t else look (s i).env t:=by
          intro n
          induction n with
          |zero=>intro _;simp only[ji,bG];rw[if_pos pU]
          | succ n ih=>
            intro hn
            obtain⟨ok,dz⟩: ∃ok,ops[c+n]? =some ok:=⟨_,aJ (show c+n<ops.size by omega)⟩
            have ih:=ih (by omega)
            simp only[ji,dz,aL]
            by_cases hk:c+n<i
            . have hA:c+(n+1)<=i:=by omega
              have SU:c+n<=i:=by omega
              rw[if_pos hA,show c+(n+1)=c+n+1 by omega,hc.toChain.Fc dz (hI.quiet _ _ (by omega) (by omega) dz) t]
              rw[if_pos SU]at ih
              by_cases hd:ok.dst=some t
              . rw[if_pos ⟨seen _ _ t hk dz hd ht,hd⟩,if_pos hd]
              . rw[if_neg (λg=>hd g.2),if_neg hd,ih]
            . have Iw: ¬(dr (c+n)=true/\ok.dst=some t):=by
                rintro⟨g1,g2⟩
                by_cases e':c+n=i
                . rw[e',h0]at g1;cases g1
                . have oj:i<c+n:=by omega
                  rcases(Gp mU oj ho dz).1 with uh|hb
                  . exact(Gx uh).2.2 g2 ht
                  . have:=oh _ _ g1 hb
                    rw[h0]at this;cases this
              have hA: ¬c+(n+1)<=i:=by omega
              rw[if_neg Iw,ih,if_neg hA]
              split
              . rw[show c+n=i by omega]
              . rfl
        have:=hE t (λk o' hk hl dz hd=>by rw[seen k o' t (by omega) dz hd ht]at hl;cases hl) (λk o' hk hl dz=>DI k o' t hk hl dz ht hid)
        rw[Iu (d-c) (by omega),if_neg (by omega)]at this
        exact this
      have hlen: ∀k l,c<=k->k<=l->l<=d->(s k).rows.length<=(s l).rows.length:=λk l h1 h2 h3=>KN hc.toChain hI.quiet hI.dn h1 h2 h3
      have ja: ∀k l,c<=k->k<=l->l<=d-> ∀r,r<(s k).rows.length->(s l).rows.getD r none=(s k).rows.getD r none:=λk l h1 h2 h3 r hr=>KO hc.toChain hI.quiet hI.dn h1 h2 h3 hr
      have BW: ∀n,c+n<=d-> ∀r,r<(s i).rows.length-> ∀row,kL s dr c n r=some row->(s i).rows.getD r none=some row:=by
        intro n
        induction n with
        | zero=>
          intro _ r hr row h
          simp only[kL]at h
          by_cases WE:r<(s c).rows.length
          . rw[ja c i (aO _) pU (by omega) r WE];exact h
          . simp only[aK,aM (show(s c).rows.length<=r by omega)]at h;cases h
        | succ n ih=>
          intro hn r hr row h
          simp only[kL]at h
          split at h
          . rename_i g
            obtain⟨g1,g2,g3⟩:=g
            have WG:c+n<i:=by
              by_cases nb:c+n<i
              . exact nb
              . by_cases e':c+n=i
                . rw[e',h0]at g1;cases g1
                . have:=hlen i (c+n) pU (by omega) (by omega);omega
            rw[ja (c+n+1) i (by omega) (by omega) (by omega) r g3];exact h
          . exact ih (by omega) r hr row h
      have BX: ∀n,c+n<=d-> ∀r,(s i).rows.length<=r->r<(s (i+1)).rows.length->kL s dr c n r=none:=by
        intro n
        induction n with
        | zero=>
          intro _ r h1 h2
          have:=hlen c i (aO _) pU (by omega)
          simp only[kL,aK,aM (show(s c).rows.length<=r by omega),Option.getD_none]
        | succ n ih=>
          intro hn r h1 h2
          simp only[kL]
          rw[if_neg]
          . exact ih (by omega) r h1 h2
          . rintro⟨g1,g2,g3⟩
            by_cases e':c+n=i
            . rw[e',h0]at g1;cases g1
            . by_cases nb:c+n<i
              . have:=hlen (c+n+1) i (by omega) (by omega) (by omega);omega
              . have:=hlen (i+1) (c+n) (by omega) (by omega) (by omega);omega
      have pn:mV cx (s i).rows:=λr row ao g1 g2=>by
        have hr:r<(s i).rows.length:=by
          by_cases h:r<(s i).rows.length
          . exact h
          . simp only[aK,aM (show(s i).rows.length<=r by omega)]at g2;cases g2
        rw[hR]at g1
        have:=BW (d-c) (by omega) r hr row g1
        rw[this]at g2;exact Option.some.inj g2
      have fin: ∀v w' c',KM cx w (s i).rows (s (i+1)).rows c' w'->Rep c' w' (val i) v->K (a.put o.dst v) w':=by
        intro v w' c' hn hv
        refine hK _ w' c d ⟨hI.cd,hI.dn,λk hk=>by rw[h2 k (by omega)];exact hI.pre k hk,hI.quiet,hI.wr,ug,?_,?_,hI.gh,hI.gy,c',B,hn.mem,λr=> ?_,λt ht he=> ?_,oi.step (ks:=[]) (λk hk=>by simp [cf]at hk) hI.gy hn.toW.toK,λk hk oR=>(nW k hk (by rw[<-h2 k (by omega)];exact oR)).cy hn.toW.toK (by omega) ho,λk j hk hj oR Bg e=>oO k j hk hj (by rw[<-h2 k (by omega)];exact oR) (by rw[<-h2 j (by omega)];exact Bg) e⟩
        . cases hd:o.dst<;>simp [Act.put]<;>exact hI.size
        . first|exact mo.put (hI.defers.step hm hn.fr)|exact mo.put (hI.defers.step hm hn.toW.fr)
        . rw[hn.rows,hR,WC pU h0 h1 h2 (d:=d) (λk om rW=>hlen (i+1) k (by omega) (by omega) (by omega)) (by omega) (by omega)]
        . have hl: ∀k o',i<k->dr k=true->ops[k]? =some o'->o'.dst=some t->o.dst=some t->False:=by
            intro k o' oj hk dz WH WI
            rcases(Gp mU oj ho dz).1 with uh|hb
            . exact(Gx uh).1 WI WH
            . have:=oh _ _ hk hb
              rw[h0]at this;cases this
          rw[WB ho pU h0 h1 h2 hl (by omega)]
          have hold:=Ax hn.cg (hE t (λk o' hk hl dz=>ht k o' hk (by rw[h2 k (by omega)];exact hl) dz) (λk o' hk hl dz=>he k o' hk (by rw[h2 k (by omega)];exact hl) dz))
          refine VF hI.size (λu=>hc.dst i o u ho) (λhd=>by rw[if_pos hd];exact hv) (λhd=>by rw[if_neg hd];exact hold)
      have skip:val i= .dt []->(s (i+1)).rows=(s i).rows->K (a.put o.dst undef) w:=λe1 e2=>
        fin undef w cx ⟨hm,jn.refl _ _,Fr.refl _ _,λb hb=> .inl hb,λr=>by rw[e2,if_neg (by omega)],λ_ _=>⟨rfl,Iff.rfl⟩,λr g1 g2=>by rw[e2]at g2;omega⟩ (by rw[e1];exact SV _ _)
      have run:pT P G M o (cb (s i).env) (s i).rows (ks i) (val i) (s (i+1)).rows->o.nw P a w K Q:=λhX=>by
        unfold pT at hX
        rw[Nx]at hX
        refine hX.2.2 cx w a hm jm pn (λr g1 g2=>by rw[hR];exact BX (d-c) (by omega) r g1 g2) (λx hx=> ?_) K Q fin
        cases x with
        | tmp t=>
          refine Ny t ?_
          unfold Oper.looksAt
          exact gO _ (List.mem_filterMap.2 ⟨.tmp t,by simpa using hx,rfl⟩)
        | const v=>
          simp only[cb,Act.eval]
          cases hv:Gy v with
          |none=>trivial
          |some d=>exact Nz hv cx w
        |global g=>trivial
        |func f=>exact KP f
      have hG:=hc.op i o ho
      unfold wpOp
      simp only[ho]
      unfold nE at hG
      cases hg:o.guard with
      | none=>
        simp only[hg]at hG
        have hw:Region.wanted o (yielded ops a.tmps)=true:=by simp [Region.wanted,hg]
        rw[if_pos hw]
        exact run hG
      | some jw=>
        obtain⟨j,want⟩:=jw
        simp only[hg]at hG
        obtain⟨g,g2,hG⟩:=hG
        have hr:=Ny g (by
          unfold Oper.looksAt
          refine gN _ ?_
          simp only[hg,g2];simp)
        rcases hG with⟨b,g3,g4⟩|⟨g3,_,e1,e2⟩
        rotate_left
        . rw[g3]at hr
          rw[if_neg (by rw[SW (o:=o) hg g2 hr];simp)]
          exact skip e1 e2
        rw[g3]at hr
        have hw:=SX (o:=o) hg g2 hr
        by_cases e':b=want
        . rw[if_pos e']at g4
          rw[if_pos (by rw[hw];simpa using e')]
          exact run g4
        . rw[if_neg e']at g4
          rw[if_neg (by rw[hw];simpa using e')]
          exact skip g4.2.1 g4.2.2
  ·
    have hic:i<c:=by omega
    rcases hI.pre i hic with h|h
    . rw[h0]at h;cases h
    have RJ: ∀b,lF ops i b=true->(∀k,i<k->k<c->ks k=[])->ks i=[]->look (s c).env b=look (s i).env b:=by
      intro b hb q8 q9
      have: ∀k,i<=k->k<=c->look (s k).env b=look (s i).env b:=by
        intro k
        induction k with
        |zero=>intro h1 _;rw[show i=0 by omega]
        | succ k ih=>
          intro h1 h2
          by_cases e':i=k+1
          . rw[e']
          . have dz:ops[k]? =some ops[k]:=aJ (by omega)
            rw[hc.env k _ b dz,if_neg (Kr hb (by omega) dz)]
            by_cases e2:k=i
            . rw[e2,q9,pk]
            . rw[q8 k (by omega) (by omega),pk];exact ih (by omega) (by omega)
      exact this c (by omega) (aO _)
    have oL: ∀b,lF ops i b=true->b∈o.looksAt ops->Rep cx w (look (s c).env b) (a.tmps.getD b undef):=λb hnb NZ=>by
      have:=hE b (λk o' hk hl dz hd=>by
        by_cases WG:k<i
        . rw[seen k o' b WG dz hd NZ]at hl;cases hl
        . exact Kr hnb (by omega) dz hd) (λk o' hk hl dz=>DI k o' b hk hl dz NZ hid)
      rwa [Qys hc (λk o' hk dz hd=>(Kr hnb (by omega) dz hd).elim)]at this
    obtain ⟨q2,q8,hN,DD⟩:o.guard=none/\((∀k,i<k->k<c->ks k=[])\/ ∀t,o.dst=some t->lF ops (i+1) t=true/\tB (look (s ops.size).env t)=true)/\pW P o (cb (s c).env) (s c).rows (val i) (s c).rows/\ ∀x∈o.op.operands,Rep cx w (cb (s c).env x) (a.eval x):=by
      rcases h with⟨o',t0,b,r,ii,off,row,ao,q1,q2,q3,q4,q5,q6,q7,q8⟩|⟨o',q,q1,q2,q3,q4,q8⟩
      . rw [ho]at q1;cases q1
        have hpc:look (s c).env b= .ptr r ii off:=EP hc q4 q5 (by omega) (by omega)
        have hpi:look (s i).env b= .ptr r ii off:=EP hc q4 q5 (by omega) (by omega)
        have tD:=(hc.mO i o ho).ld t0 b r ii off q2 q3 hpi
        have fh:cb (s c).env (.tmp b)= .ptr r ii off:=by simp [cb,hpc]
        have q9:((∀k,i<k->k<c->ks k=[])\/ ∀t,o.dst=some t->lF ops (i+1) t=true/\tB (look (s ops.size).env t)=true)/\pW P o (cb (s c).env) (s c).rows (val i) (s c).rows:=by
          rcases q8 with⟨e8,q8⟩|⟨⟨td,d1,d2,d3⟩,L,e8,hL⟩
          . subst e8
            exact⟨.inl q8,tD.2.2.2.1 (cb (s c).env) (s c).rows fh (by rw[q6,q7])⟩
          . refine⟨.inr λt ht=>by rw[d1]at ht;cases ht;exact⟨d2,Ry d3⟩,tD.2.2.2.2 (cb (s c).env) (s c).rows row L ?_ (λkk hk=> ?_) fh q6 (by rw[q7,e8])⟩
            rotate_left
            . obtain⟨j,j1,j2,rfl⟩:=hL kk hk
              have h5:=ER hc d2 (Ry d3) (aO _) (show i+1<=ops.size by omega)
              have h6:=hc.env i o td ho
              rw[if_pos d1,h5]at h6
              have g1:=ER hc d2 (Ry d3) (show i+1<=j by omega) (show j<=ops.size by omega)
              have g2:=ER hc d2 (Ry d3) (show i+1<=j+1 by omega) (show j+1<=ops.size by omega)
              have dz:ops[j]? =some ops[j]:=aJ (by omega)
              rw[hc.env j _ td dz,if_neg (Kr d2 (by omega) dz),Ch,g1,Zrs d3]at g2
              rw[<-h6];exact g2
            have h5:=ER hc d2 (Ry d3) (aO _) (show i+1<=ops.size by omega)
            have h6:=hc.env i o td ho
            rw[if_pos d1]at h6
            rw[<-h6,h5];exact d3
        refine⟨q2,q9.1,q9.2,λx hx=> ?_⟩
        have jI:x= .tmp b:=by simpa [q3,Op.operands] using hx
        rw[jI]
        refine oL b q4 ?_
        unfold Oper.looksAt
        exact gO _ (List.mem_filterMap.2 ⟨.tmp b,by rw[q3];simp [Op.operands],rfl⟩)
      . rw [ho]at q1;cases q1
        have tD:=(hc.mO i o ho).pu q q2 (Zq9 hc q3 q4 (aO _) (by omega))
        refine⟨q2,q8.imp id λg t ht=>⟨(g.2 t ht).1,Qnn (g.2 t ht).2⟩,tD.2.2 (cb (s c).env) (s c).rows (λx hx=> ?_),λy hy=> ?_⟩
        . cases x with
          | tmp b=>
            rcases q8 with q8|q8
            . exact RJ b (q4 b (Z6o q3 hx)) q8 tD.1
            . obtain⟨g1,g2⟩:=q8.1 b (Z6o q3 hx)
              show look (s c).env b=look (s i).env b
              rw[ER hc g1 (Qnn g2) (by omega) (by omega),ER hc g1 (Qnn g2) (aO _) (by omega)]
          |_=>rfl
        . cases y with
          | tmp b=>
            refine oL b (q4 b (Z6o q3 hy)) ?_
            unfold Oper.looksAt
            exact gO _ (List.mem_filterMap.2 ⟨.tmp b,by simpa using hy,rfl⟩)
          | const v=>
            simp only[cb,Act.eval]
            cases hv:Gy v with
            |none=>trivial
            |some d=>exact Nz hv cx w
          |global g=>trivial
          |func f=>exact KP f
    have pn:mV cx (s c).rows:=λr' Fw jC g1 g2=>by
      have hr:r'<(s c).rows.length:=by
        by_cases h:r'<(s c).rows.length
        . exact h
        . simp only[aK,aM (show(s c).rows.length<=r' by omega)]at g2;cases g2
      rw[hR,Zl3 hc hI.quiet Iv hr (by omega),g2]at g1
      exact(Option.some.inj g1).symm
    have fin: ∀v w' c',KM cx w (s c).rows (s c).rows c' w'->Rep c' w' (val i) v->K (a.put o.dst v) w':=by
      intro v w' c' hn hv
      refine hK _ w' c d ⟨WM,Iv,λk hk=> ?_,hI.quiet,hI.wr,ug,?_,?_,hI.gh,hI.gy,c',B,hn.mem,λr'=> ?_,λt ht he=> ?_,oi.step (ks:=[]) (λk hk=>by simp [cf]at hk) hI.gy hn.toW.toK,λk hk oR=>(nW k hk (by rw[<-h2 k (by omega)];exact oR)).cy hn.toW.toK (by omega) ho,λk j hk hj oR Bg e=>oO k j hk hj (by rw[<-h2 k (by omega)];exact oR) (by rw[<-h2 j (by omega)];exact Bg) e⟩
      . by_cases e':k=i
        . rw[e'];exact .inl h1
        . rw[h2 k e'];exact hI.pre k hk
      . cases hd:o.dst<;>simp [Act.put]<;>exact hI.size
      . first|exact mo.put (hI.defers.step hm hn.fr)|exact mo.put (hI.defers.step hm hn.toW.fr)
      . rw[hn.rows,hR,if_neg (by omega),SS (λk hk=>h2 _ (by omega))]
      . rw [SR (λk hk=>h2 _ (by omega))]
        refine VF hI.size (λu=>hc.dst i o u ho) (λhd=> ?_) (λhd=> ?_)
        ·
          have oW: ∀k o',i<k->ops[k]? =some o'->o'.dst=some t->dr k=false:=λk o' hk dz tA=>by
            cases hl:dr k with
            |false=>rfl
            | true=>
              rcases(Gp mU hk ho dz).1 with uh|hb
              . exact((Gx uh).1 hd tA).elim
              . have:=oh _ _ hl hb
                rw[h0]at this;cases this
          have Jak: ∀k o',i<k->k<c->ops[k]? =some o'->o'.dst≠some t:=λk o' om rW dz tA=>
            ht k o' rW (by rw[h2 k (by omega)];exact oW k o' om dz tA) dz tA
          rw[Qys hc (λk o' hk dz tA=>oW _ o' (by omega) dz tA)]
          have: ∀k,i<k->k<=c->look (s k).env t=val i:=by
            rcases q8 with q8|q8
            rotate_left
            . intro k om rW
              obtain⟨g1,g2⟩:=q8 t hd
              have:=hc.env i o t ho
              rw[if_pos hd]at this
              rw[<-this,ER hc g1 g2 (by omega) (by omega),ER hc g1 g2 (aO _) (by omega)]
            intro k
            induction k with
            |zero=>intro h;omega
            | succ k ih=>
              intro om rW
              have dz:ops[k]? =some ops[k]:=aJ (by omega)
              by_cases e':k=i
              . subst e'
                rw[ho]at dz
                rw[hc.env k o t ho,if_pos hd]
              . rw[hc.env k _ t dz,if_neg (Jak k _ (by omega) (by omega) dz),q8 k (by omega) (by omega),pk]
                exact ih (by omega) (by omega)
          rw[this c hic (aO _)]
          exact hv
        . refine Ax hn.cg (hE t (λk o' hk hl dz tA=> ?_) (λk o' hk hl dz=>he k o' hk (by rw[h2 k (by omega)];exact hl) dz))
          by_cases e':k=i
          . subst e'
            rw[ho]at dz;cases dz
            exact hd tA
          . exact ht k o' hk (by rw[h2 k e'];exact hl) dz tA
    unfold wpOp
    simp only[ho]
    have hw:Region.wanted o (yielded ops a.tmps)=true:=by simp [Region.wanted,q2]
    rw[if_pos hw]
    exact hN.2 cx w a hm jm pn (λr' g1 g2=>by omega) DD K Q fin
theorem Zj2{c d:Nat}(hI:Inv2 P G N M ops s ks val c0 w0 dr a w c d)(iU:∀i,i<ops.size->dr i=true):∃cx,fw N M c0 w0 cx w (s ops.size) a:=by
 obtain⟨cx,B,hm,hR,hE,oi,nW,oO⟩:=hI.ctx
 have hd:d=ops.size:=by
  by_cases h:d<ops.size
  ·obtain⟨o',t,_,_,g1,_,g3,_⟩:=nW d (aO _) (iU d h)
   have:=hI.wr _ g1
   unfold lI at this
   rw[g3]at this;cases this
  ·have:=hI.dn;omega
 subst hd
 have WM:=hI.cd
 have hl:∀k,k<ops.size-c->dr (c+k)=true:=λk hk=>iU _ (by omega)
 refine⟨cx,hm,λr=>?_,λt=>?_,hI.size,hI.defers,hI.gh,hI.gy,oi⟩
 ·rw[hR,SO hc.toChain hI.quiet hI.dn (by omega) hl,show c+(ops.size-c)=ops.size by omega]
 ·have:=hE t (λk o hk h0 dz=>by rw[iU k (Array.getElem?_eq_some_iff.1 dz).1]at h0;cases h0) (λk o hk _ dz=>by have:=(Array.getElem?_eq_some_iff.1 dz).1;omega)
  rw[SN hc.toChain hI.quiet hI.dn (by omega) hl]at this
  rwa [show c+(ops.size-c)=ops.size by omega]at this
theorem qA(hQ:∀c w a,fw N M c0 w0 c w (s ops.size) a->Q .normal a w):∀(fuel:Nat) (listed:Array Bool) (a:Act) (w:World) (c d:Nat),listed.size=ops.size->nc (λi=>listed.getD i false) ops.size<=fuel->
 Inv2 P G N M ops s ks val c0 w0 (λi=>listed.getD i false) a w c d->Ix P .any ops Q fuel listed a w:=by
 intro fuel
 have By:∀(listed:Array Bool) (i:Nat),listed.size=ops.size->(i∈Region.ready .any ops listed↔ ∃o,ops[i]?=some o/\listed.getD i false=false/\∀e∈o.after,Region.binds .any e=true->listed.getD e.on false=true):=by
  intro listed i fy
  unfold Region.ready
  rw[gW,gX]
  constructor
  ·rintro⟨h1,h2⟩
   have ho:ops[i]?=some ops[i]:=aJ h1
   simp only[ho,aR,aG,aE,aS]at h2
   refine⟨_,ho,?_,λe he hb=>?_⟩
   ·have hl:i<listed.size:=by omega
    have:=h2.1
    simpa[aP,hl]using this
   ·have:=Array.all_eq_true'.1 h2.2 e he
    simpa[hb]using this
  ·rintro⟨o,ho,h1,h2⟩
   have bz:=(Array.getElem?_eq_some_iff.1 ho).1
   refine⟨bz,?_⟩
   simp only[ho,aR,aG,aE,aS]
   have hl:i<listed.size:=by omega
   refine⟨by simpa[aP,hl]using h1,Array.all_eq_true'.2 λe he=>?_⟩
   cases hb:Region.binds .any e with
   |false=>rfl
   |true=>simpa[hb]using h2 e he hb
 have ku:∀(listed:Array Bool),listed.size=ops.size->Region.ready .any ops listed=[]->∀i,i<ops.size->listed.getD i false=true:=by
  intro listed fy he i
  induction i using Nat.strongRecOn with
  |_ i ih=>
   intro hi
   cases hl:listed.getD i false with
   |true=>rfl
   |false=>
    exfalso
    have ho:ops[i]?=some ops[i]:=aJ hi
    have:i∈Region.ready .any ops listed:=(By listed i fy).2 ⟨_,ho,hl,λe Av hb=>by
     have:=Zhu mU ho e Av hb
     exact ih e.on this (by omega)⟩
    rw[he]at this;cases this
 induction fuel with
 |zero=>
  intro listed a w c d fy BY hI
  have iU:=WK (dr:=λi=>listed.getD i false) (Nat.le_zero.1 BY)
  refine⟨?_,?_⟩
  ·rw[List.eq_nil_iff_forall_not_mem]
   intro i hi
   obtain⟨o,ho,h1,_⟩:=(By listed i fy).1 hi
   have:=iU i (Array.getElem?_eq_some_iff.1 ho).1
   rw[h1]at this;cases this
  ·obtain⟨cx,hs⟩:=Zj2 hc mU hI iU
   exact hQ cx w a hs
 |succ fuel ih=>
  intro listed a w c d fy BY hI
  refine⟨λhe=>?_,λi hi=>?_⟩
  ·obtain⟨cx,hs⟩:=Zj2 hc mU hI (ku listed fy he)
   exact hQ cx w a hs
  ·obtain⟨o,ho,h1,h2⟩:=(By listed i fy).1 hi
   have bz:=(Array.getElem?_eq_some_iff.1 ho).1
   have sH:(listed.setIfInBounds i true).getD i false=true:=by
    have hl:i<listed.size:=by omega
    simp[aP,hl]
   have sI:∀k,k≠i->(listed.setIfInBounds i true).getD k false=listed.getD k false:=λk hk=>by
    rw[aF,aQ (Ne.symm hk),<-aF]
   refine vz hc mU (gk:=λk=>(listed.setIfInBounds i true).getD k false) hI ho h1 sH sI h2 λa' w' c' d' WN=>?_
   refine ih _ a' w' c' d' (by simpa using fy) ?_ WN
   have:=WL (dr:=λk=>listed.getD k false) (gk:=λk=>(listed.setIfInBounds i true).getD k false) h1 sH sI bz
   omega
end
theorem By{listed:Array Bool}(fy:listed.size=ops.size):i∈Region.ready .any ops listed↔ ∃o,ops[i]?=some o/\listed.getD i false=false/\∀e∈o.after,Region.binds .any e=true->listed.getD e.on false=true:=by
 unfold Region.ready
 rw[gW,gX]
 constructor
 ·rintro⟨h1,h2⟩
  have ho:ops[i]?=some ops[i]:=aJ h1
  simp only[ho,aR,aG,aE,aS]at h2
  refine⟨_,ho,?_,λe he hb=>?_⟩
  ·have hl:i<listed.size:=by omega
   have:=h2.1
   simpa[aP,hl]using this
  ·have:=Array.all_eq_true'.1 h2.2 e he
   simpa[hb]using this
 ·rintro⟨o,ho,h1,h2⟩
  have bz:=(Array.getElem?_eq_some_iff.1 ho).1
  refine⟨bz,?_⟩
  simp only[ho,aR,aG,aE,aS]
  have hl:i<listed.size:=by omega
  refine⟨by simpa[aP,hl]using h1,Array.all_eq_true'.2 λe he=>?_⟩
  cases hb:Region.binds .any e with
  |false=>rfl
  |true=>simpa[hb]using h2 e he hb
theorem xA{r:Nat}:∀{l:List Nat} {k:Nat},r∉l->pos r l k=k+l.length
 |[],k,_=>rfl
 |x::l,k,h=>by
  simp only[List.mem_cons,not_or]at h
  simp only[pos]
  cases hb:Nat.beq x r with
  |true=>exact(h.1 (bE hb).symm).elim
  |false=>show pos r l (k+1)=_;rw[xA h.2];simp;omega
section
variable {p:List Nat} {ops:Array Oper} (hp:VG p ops.size=true)
include hp
theorem VH:p.length=ops.size/\(∀i,i<ops.size->i∈p)/\(∀i∈p,i<ops.size)/\p.Nodup:=by
 unfold VG at hp
 simp only[aE]at hp
 obtain⟨h1,h2,h3,h4⟩:=hp
 exact⟨bE h1,λi hi=>oA.1 (List.all_eq_true.1 h2 i (List.mem_range.2 hi)),λi hi=>lE (List.all_eq_true.1 h3 i hi),MN.1 h4⟩
theorem H9(hi:i<ops.size):pos i p 0<ops.size/\p[pos i p 0]?=some i:=by
 obtain⟨h1,h2,h3,h4⟩:=VH hp
 have:=BI (h2 i hi)
 exact⟨by have:=(List.getElem?_eq_some_iff.1 this).1;omega,this⟩
theorem Zig(h:pos i p 0<ops.size):i<ops.size:=by
 obtain⟨h1,h2,h3,h4⟩:=VH hp
 by_cases hm:i∈p
 ·exact h3 i hm
 ·rw[xA hm]at h;omega
theorem Qpq:(nC p ops).size=ops.size:=by
 obtain⟨h1,_⟩:=VH hp
 simp[nC,h1]
theorem VI(hk:p[k]?=some i)(ho:ops[i]?=some o):(nC p ops)[k]?=some (M7 p o):=by
 have:ops.getD i default=o:=by
  have bz:=(Array.getElem?_eq_some_iff.1 ho).1
  have:=(Array.getElem?_eq_some_iff.1 ho).2
  simp[aP,bz,this]
 simp[nC,hk,ho]
theorem Zj8(tmps:Array Value)(j:Nat):yielded (nC p ops) tmps (pos j p 0)=yielded ops tmps j:=by
 by_cases hj:j<ops.size
 ·have ho:ops[j]?=some ops[j]:=aJ hj
  have h1:=VI hp (H9 hp hj).2 ho
  simp only[yielded,h1,ho,aL]
  rfl
 ·have h1:ops[j]?=none:=cL (by omega)
  have h2:(nC p ops)[pos j p 0]?=none:=by
   refine cL ?_
   rw[Qpq hp]
   by_cases h:pos j p 0<ops.size
   ·exact(hj (Zig hp h)).elim
   ·omega
  simp only[yielded,h1,h2,Option.bind_none]
theorem Zma(tmps:Array Value):Region.wanted (M7 p o) (yielded (nC p ops) tmps)=Region.wanted o (yielded ops tmps):=by
 unfold Region.wanted M7
 cases hg:o.guard with
 |none=>rfl
 |some jw=>obtain⟨j,w⟩:=jw;simp only[Zj8 hp]
theorem zA{K K':Act->World->Prop}(hi:i<ops.size)(hK:∀a w,K' a w->K a w)(h:wpOp P (nC p ops) Q (pos i p 0) K' a w):wpOp P ops Q i K a w:=by
 have ho:ops[i]?=some ops[i]:=aJ hi
 have h1:=VI hp (H9 hp hi).2 ho
 unfold wpOp at h⊢
 simp only[ho]
 simp only[h1,Zma hp]at h
 split at h
 ·rename_i hw
  rw[if_pos hw]
  exact W0 (Q:=Q) hK h
 ·rename_i hw
  rw[if_neg hw]
  exact hK _ _ h
theorem Zr4:∀(fuel:Nat) (listed fq:Array Bool) (a:Act) (w:World),listed.size=ops.size->fq.size=ops.size->(∀i,i<ops.size->fq.getD (pos i p 0) false=listed.getD i false)->
 Ix P .any (nC p ops) Q fuel fq a w->Ix P .any ops Q fuel listed a w:=by
 have fy:=Qpq hp
 obtain⟨f1,f2,f3,f4⟩:=VH hp
 have up:∀(listed fq:Array Bool) (i:Nat),listed.size=ops.size->fq.size=ops.size->(∀i,i<ops.size->fq.getD (pos i p 0) false=listed.getD i false)->i∈Region.ready .any ops listed->i<ops.size/\pos i p 0∈Region.ready .any (nC p ops) fq:=by
  intro listed fq i h1 h2 h3 hi
  obtain⟨o,ho,g1,g2⟩:=(By h1).1 hi
  have bz:=(Array.getElem?_eq_some_iff.1 ho).1
  refine⟨bz,(By (by rw[h2,fy])).2 ⟨_,VI hp (H9 hp bz).2 ho,by rw[h3 i bz];exact g1,λe he hb=>?_⟩⟩
  simp only[M7,gY]at he
  obtain⟨e',Av,rfl⟩:=he
  have:=g2 e' Av hb
  have KT:e'.on<ops.size:=by
   by_cases h:e'.on<ops.size
   ·exact h
   ·rw[aP,dif_neg (by omega)]at this;cases this
  show fq.getD (pos e'.on p 0) false=true
  rw[h3 _ KT];exact this
 have down:∀(listed fq:Array Bool) (k:Nat),listed.size=ops.size->fq.size=ops.size->(∀i,i<ops.size->fq.getD (pos i p 0) false=listed.getD i false)->k∈Region.ready .any (nC p ops) fq->∃i,i∈Region.ready .any ops listed:=by
  intro listed fq k h1 h2 h3 hk
  obtain⟨o',jd,g1,g2⟩:=(By (by rw[h2,fy])).1 hk
  have bz:=(Array.getElem?_eq_some_iff.1 jd).1
  rw[fy]at bz
  have BJ:p[k]?=some p[k]:=List.getElem?_eq_getElem (by omega)
  have hi:=f3 _ (fV BJ)
  have ho:ops[p[k]]?=some ops[p[k]]:=aJ hi
  have RL:pos p[k] p 0=k:=by
   have:=(H9 hp hi).2
   exact(List.getElem?_inj (by have:=(H9 hp hi).1;omega) f4).1 (this.trans BJ.symm)
  have h4:=VI hp BJ ho
  rw[jd]at h4;cases h4
  refine⟨p[k],(By h1).2 ⟨_,ho,by rw[<-h3 _ hi,RL];exact g1,λe he hb=>?_⟩⟩
  have:=g2 (DK p e) (by simp only[M7,gY];exact⟨e,he,rfl⟩) hb
  have this:fq.getD (pos e.on p 0) false=true:=this
  have KT:pos e.on p 0<ops.size:=by
   by_cases h:pos e.on p 0<ops.size
   ·exact h
   ·rw[aP,dif_neg (by omega)]at this;cases this
  rw[<-h3 _ (Zig hp KT)];exact this
 intro fuel
 induction fuel with
 |zero=>
  intro listed fq a w h1 h2 h3 h
  refine⟨?_,h.2⟩
  cases hr:Region.ready .any ops listed with
  |nil=>rfl
  |cons i l=>
   have:=(up listed fq i h1 h2 h3 (by rw[hr];simp)).2
   rw[h.1]at this;cases this
 |succ fuel ih=>
  intro listed fq a w h1 h2 h3 h
  refine⟨λhe=>h.1 ?_,λi hi=>?_⟩
  ·cases hr:Region.ready .any (nC p ops) fq with
   |nil=>rfl
   |cons k l=>
    obtain⟨i,hi⟩:=down listed fq k h1 h2 h3 (by rw[hr];simp)
    rw[he]at hi;cases hi
  ·obtain⟨bz,iw⟩:=up listed fq i h1 h2 h3 hi
   refine zA hp bz (λa' w' hk=>ih _ _ a' w' (by simpa using h1) (by simpa using h2) (λk hk=>?_) hk) (h.2 _ iw)
   have hpi:=(H9 hp bz)
   have BJ:=(H9 hp hk)
   have gs:∀(A:Array Bool) (x y:Nat),x<A.size->(A.setIfInBounds x true).getD y false=if x=y then true else A.getD y false:=λA x y hx=>by
    simp only[aF,Array.getElem?_setIfInBounds]
    split
    ·rename_i e;subst e;simp[hx]
    ·rfl
   rw[gs _ _ _ (by omega),gs _ _ _ (by omega)]
   by_cases e:i=k
   ·subst e;simp
   ·have gv:pos i p 0≠pos k p 0:=λe'=>by
     have:=BJ.2
     rw[<-e',hpi.2]at this
     exact e (Option.some.inj this)
    rw[if_neg e,if_neg gv];exact h3 k hk
end
theorem Zlu{ro:Option Nat}(hm:P.follows .mixedOrders=true){N M id:Nat}{Q:Ex->St->Prop}(hT:jD P T)(hG:j5 P G){p:List Nat}(hp:VG p ops.size=true)(h:mn T G N M (nC p ops) (nC p ops).toList st λst=>cv (RB G (nC p ops) st.env) (Q .normal st)):ui ro P N M (.region id ops true) st Q:=by
 intro c0 w0 c w a hs
 have hs:=hs.drew
 refine Qut hm ?_
 refine Zr4 hp ops.size _ (gK ops.size false) a _ (by simp) (by simp) (λi hi=>by simp[aP,(H9 hp hi).1,hi]) ?_
 obtain⟨s,ks,val,h1,h2,h3,h4,h5,h6⟩:=Zk3 hT hG (nC p ops).toList 0 st (by simp) h
 have hc:VE P G N M (nC p ops) s ks val:=⟨⟨λi o ho=>h3 i o (aT _) ho,λi o t ho=>h4 i o t (aT _) ho,λi o t ho=>h5 i o t (aT _) ho⟩,λi o ho=>h6 i o (aT _) ho⟩
 have fy:s (0+(nC p ops).toList.length)=s (nC p ops).size:=by simp
 rw[fy]at h2
 obtain⟨hd,h2⟩:=db.1 h2
 have mr:=Qpq hp
 obtain⟨d,g1,g2,g3,g4⟩:=Nv G (nC p ops) _ 0 rfl (aT _)
 have hz:∀i,(gK (nC p ops).size false).getD i false=false:=λi=>by
  by_cases h:i<(nC p ops).size
  ·simp[aP,h]
  ·simp[aP,h]
 rw[<-mr]
 refine qA hc hd (Q:=λe a' w'=>∃ex jx c',nd e=some ex/\Q ex jx/\fw N M c0 w0 c' w' jx a') (λc w a jl=>⟨_,_,c,rfl,h2,jl⟩) (nC p ops).size _ a _ 0 d (by simp) (WJ _ _)
  ⟨g1,g2,λi hi=>by omega,g3,g4,λj hj=>by simp[hz]at hj,hs.size,hs.defers,hs.gh,hs.gy,c,λ_=>0,hs.mem,λr=>?_,λt _ _=>?_,hs.reach,λi _ hl=>by simp[hz]at hl,λi j _ _ hl=>by simp[hz]at hl⟩
 ·rw[SQ (λi _=>hz _),h1];exact hs.rows r
 ·rw[SP (λi _=>hz _),h1];exact hs.env t
theorem yA(hm:P.follows .mixedOrders=true):sB P:=by
 intro ro T G N M id ops st Q hT hG h
 unfold wc at h
 split at h
 ·rename_i hd
  exact za hm ro T G N M id ops st Q hT hG hd h
 ·obtain⟨h1,h2⟩:=db.1 h
  exact Zlu hm hT hG h1 h2
