import Derived.Test.YtaemmjbkndlkeaaGreatMigrateQuietDraw
open List renaming mem_cons_self->eU,getD->aV,getElem?_eq_none->aJ,mem_of_getElem?->fL,mem_append_left->eS,mem_append_right->eX,mem_filter->gM,mem_range->gN
open Array renaming mem_toList_iff->gL,toArray_toList->bW,getElem?_eq_getElem->aU,getElem?_setIfInBounds_ne->aZ,getD->aY,getD_eq_getD_getElem?->aQ,getElem?_eq_none->gO,mem_map->gP,replicate->gE
open Option renaming bind_some->aW,map_some->bA,getD_some->aR
open Bool renaming or_eq_true->aT,false_eq_true->aA,not_eq_true'->bB
open Nat renaming lt_of_lt_of_le->bM,le_refl->aX,add_zero->aB,zero_le->bC
set_option linter.all false
namespace Go.GD
open Go
set_option linter.unusedSectionVars false
variable {G:List ba}{K:D->Rows->Prop}{M N b i j k off r u:Nat}{P:Program}{Q:Exit->Act->World->Prop}{R:Rows}{T:iB}{a:Act}{arr:Array Value}{c c' c0:Ctx}{d:D}{ev:Operand->D}{dr:Nat->Bool}{o x y:Oper}{op:Op}{ops:Array Oper}{pl:Bool}{q:List Nat}{row:Row}{s:Nat->St}{st:St}{t:TypeId}{ti:TI}{ty:tu}{v:Value}{val:Nat->D}{w w' w0:World}
theorem Zco{K:D->Prop}(h:uD pl ty d K):∃d',K d'/\∀K2:D->Prop,K2 d'->uD pl ty d K2:=by
 cases ty<;>simp only[uD]at h⊢
 ·exact⟨_,(dd.1 h).2,λK2 h2=>dd.2 ⟨(dd.1 h).1,h2⟩⟩
 ·exact⟨_,(dd.1 h).2,λK2 h2=>dd.2 ⟨(dd.1 h).1,h2⟩⟩
 ·exact⟨_,(dd.1 h).2,λK2 h2=>dd.2 ⟨(dd.1 h).1,h2⟩⟩
 ·cases pl
  ·simp only[D.c8]at h⊢
   exact⟨_,(dd.1 h).2,λK2 h2=>dd.2 ⟨(dd.1 h).1,h2⟩⟩
  ·exact⟨_,(dd.1 h).2,λK2 h2=>dd.2 ⟨(dd.1 h).1,h2⟩⟩
 ·cases pl
  ·simp only[D.c8]at h⊢
   exact⟨_,(dd.1 h).2,λK2 h2=>dd.2 ⟨(dd.1 h).1,h2⟩⟩
  ·cases d<;>first|exact h.elim|exact⟨_,h,λK2 h2=>h2⟩
theorem ZI{pl:Bool}{e:List D}:∀{dj:List tu} {off:Nat} {K:List D->Prop},Jb pl e dj off K->∃ds,K ds/\∀K2:List D->Prop,K2 ds->Jb pl e dj off K2
 |[],off,K,h=>⟨[],h,λK2 h2=>h2⟩
 |t::ts,off,K,h=>by
  simp only[Jb]at h⊢
  obtain⟨d,hd,h1⟩:=Zco h
  obtain⟨ds,DT,h2⟩:=ZI hd
  exact⟨_,DT,λK2 hk=>h1 _ (h2 _ hk)⟩
theorem UL{e:List D}{K:D->Prop}(h:uE pl ti e off K):∃d,K d/\∀K2:D->Prop,K2 d->uE pl ti e off K2:=by
 unfold uE at h
 cases hg:ti.kind.isAgg with
 |true=>
  simp only[hg]at h
  obtain⟨ds,h1,h2⟩:=ZI h
  exact⟨_,h1,λK2 hk=>by unfold uE;simp only[hg];exact h2 _ hk⟩
 |false=>
  simp only[hg]at h
  split at h
  ·rename_i y hy
   obtain⟨d,h1,h2⟩:=Zco h
   exact⟨_,h1,λK2 hk=>by unfold uE;simp only[hg,hy];exact h2 _ hk⟩
  ·exact h.elim
theorem Zl9(h:wG T t (.ptr r i off) R K):
 ∃d,K d R/\(∃row,R.getD r none=some row)/\∀R2:Rows,R2.getD r none=R.getD r none->wG T t (.ptr r i off) R2 λd' R'=>d'=d/\R'=R2:=by
 unfold wG at h
 cases hT:T.get t with
 |none=>simp only[hT]at h
 |some ti=>
  simp only[hT]at h
  cases hr:R.getD r none with
  |none=>simp only[hr]at h
  |some row=>
   obtain⟨box,ty,sz,es⟩:=row
   simp only[hr,dd]at h
   obtain⟨h0,h⟩:=h
   obtain⟨d,h1,h2⟩:=UL h
   refine⟨d,h1,?_,λR2 uz=>?_⟩
   ·exact⟨_,rfl⟩
   ·unfold wG
    simp only[hT,uz,dd]
    exact⟨h0,h2 _ (by simp)⟩
theorem Zt6(h:pw d=true)(ks:List Nat):d.gp ks=d.ed ks:=by cases d<;>first|rfl|cases h
theorem Zs4{d d':D}{ks:List Nat}(h:uD pl ty d λx=>x=d')(hd:d'.ed ks=d'):d.ed ks=d:=by
 cases ty<;>simp only[uD]at h
 ·cases d<;>first|rfl|(simp[D.isInt,dd]at h;done)
 ·cases d<;>first|rfl|(simp[D.isBool,dd]at h;done)
 ·cases d<;>first|rfl|(simp[D.isStr,dd]at h;done)
 ·cases pl
  ·simp only[D.c8,dd]at h
   rw[h.2];exact hd
  ·simp only[dd]at h
   cases d<;>first|rfl|(simp[D.EZ,dd]at h;done)
 ·cases pl
  ·simp only[D.c8,dd]at h
   rw[h.2];exact hd
  ·cases d<;>first|exact h.elim|rfl
theorem Zb0{ks:List Nat}:∀{l:List D} {j:Nat},(D.kj ks l).getD j .dead=(l.getD j .dead).ed ks
 |[],_=>rfl
 |_::_,0=>rfl
 |_::l,j+1=>Zb0 (l:=l) (j:=j)
theorem Znn(ks:List Nat)(row:Row)(i off:Nat):((row.kill ks).es.get i).getD off .dead=(row.es.get i).getD off .dead\/((row.kill ks).es.get i).getD off .dead=((row.es.get i).getD off .dead).ed ks:=by
 unfold Row.kill
 split
 ·rename_i ty sz e
  cases i with
  |zero=>exact .inr Zb0
  |succ i=>exact .inl rfl
 ·exact .inl rfl
theorem Zmp{v:D}{ks:List Nat}(h:uE pl ti (row.es.get i) off λx=>x=v)(hv:pw v=true)(hk:v.ed ks=v):uE pl ti ((row.kill ks).es.get i) off λx=>x=v:=by
 unfold uE at h⊢
 cases hg:ti.kind.isAgg with
 |true=>
  simp only[hg]at h
  obtain⟨ds,h1,_⟩:=ZI h
  rw[<-h1]at hv;cases hv
 |false=>
  simp only[hg]at h⊢
  split at h
  ·rename_i y hy
   have e:((row.kill ks).es.get i).getD off .dead=(row.es.get i).getD off .dead:=by
    rcases Znn ks row i off with e|e
    ·exact e
    ·rw[e];exact Zs4 h hk
   rw[e];exact h
  ·exact h.elim
theorem Z1m{pl:Bool}{ti:TI}{i off:Nat}{v:D}(hv:pw v=true):∀{L:List (List Nat)} {row:Row},(∀kk∈L,v.ed kk=v)->(uE pl ti (row.es.get i) off λx=>x=v)->uE pl ti ((L.foldl (λr k=>Row.kill k r) row).es.get i) off λx=>x=v
 |[],_,_,h=>h
 |k::L,row,hL,h=>Z1m hv (L:=L) (row:=row.kill k) (λkk hk=>hL kk (List.mem_cons_of_mem _ hk)) (Zmp h hv (hL k (eU ..)))
theorem Z6q:∀(L:List (List Nat)) (row:Row),(L.foldl (λr k=>Row.kill k r) row).box=row.box/\(L.foldl (λr k=>Row.kill k r) row).sz=row.sz
 |[],_=>⟨rfl,rfl⟩
 |k::L,row=>by
  obtain⟨k1,k2,k3,k4⟩:=u6 k row
  obtain⟨h1,h2⟩:=Z6q L (row.kill k)
  exact⟨h1.trans k1,h2.trans k3⟩
theorem Zrs{R R2:Rows}{v:D}{L:List (List Nat)}(h:wG T t (.ptr r i off) R λd' R'=>d'=v/\R'=R)(hv:pw v=true)(hL:∀kk∈L,v.ed kk=v)(hr:R.getD r none=some row)(uz:R2.getD r none=some (L.foldl (λr k=>Row.kill k r) row)):
 wG T t (.ptr r i off) R2 λd' R'=>d'=v/\R'=R2:=by
 obtain⟨s1,s2⟩:=Z6q L row
 unfold wG at h⊢
 cases hT:T.get t with
 |none=>simp only[hT]at h
 |some ti=>
  simp only[hT,hr]at h
  simp only[hT,uz]
  obtain⟨box,ty,sz,es⟩:=row
  simp only at h s1 s2
  generalize c6:L.foldl (λr k=>Row.kill k r) (⟨box,ty,sz,es⟩:Row)=jy at s1 s2⊢
  obtain⟨QE,ty2,sz2,es2⟩:=jy
  simp only at s1 s2⊢
  subst s1;subst s2
  simp only[dd]at h⊢
  refine⟨h.1,?_⟩
  have hx:uE (!QE) ti (es.get i) off λx=>x=v:=by
   obtain⟨d,h1,h2⟩:=UL h.2
   exact h2 _ h1.1
  have:=Z1m (L:=L) (row:=⟨QE,ty,sz2,es⟩) hv hL hx
  rw[c6]at this
  obtain⟨d,h1,h2⟩:=UL this
  exact h2 _ ⟨h1,by first|trivial|rfl⟩
theorem Zef(h:Hc T t (.ptr r i off) d R K):
 ∃R',K .dead R'/\(∀r',r'≠r->R'.getD r' none=R.getD r' none)/\Hc T t (.ptr r i off) d R λd' R2=>d'=.dead/\R2=R':=by
 unfold Hc at h
 cases hT:T.get t with
 |none=>simp only[hT]at h
 |some ti=>
  simp only[hT]at h
  cases hr:R.getD r none with
  |none=>simp only[hr]at h
  |some row=>
   obtain⟨box,ty,sz,es⟩:=row
   simp only[hr,dd]at h
   obtain⟨h0,h⟩:=h
   have uF:∀(x:Option Row) (r':Nat),r'≠r->(R.set r x).getD r' none=R.getD r' none:=λx r' h=>by
    simp only[aV,List.getElem?_set_ne (Ne.symm h)]
   cases box with
   |true=>
    simp only[D.fe,nf]at h
    refine⟨_,h,uF _,?_⟩
    unfold Hc
    simp only[hT,hr,dd,D.fe,nf]
    exact⟨h0,by simp⟩
   |false=>
    simp only[nf]at h
    refine⟨_,h.2,uF _,?_⟩
    unfold Hc
    simp only[hT,hr,dd,nf]
    exact⟨h0,h.1,by simp⟩
structure UM(P:Program)(o:Oper)(row:Row)(arr:Array Value):Prop where
 box:row.box=true
 sz:0<row.sz
 cells:∃e,row.es=.gen [e]/\e.length=row.sz/\arr.size=row.sz/\∀(c:Ctx) (w:World),kH c w e arr 0
 run:∀(ev:Operand->Value) (w:World),(execOp ev o).run P w=.ok (.value (.pointer (some ⟨w.heap.size,0,none⟩))) (w.alloc (.cells arr row.ty))
theorem Zsj(hT:ji P T)(ho:o.op=.alloc t){k:TK}{sz b:Nat}{cs:List tu}{ds:List D}{e:Bool}(ht:T.get t=some ⟨k,sz,b,cs,some ds,e⟩)(h0:0<sz)(hl:ds.length=sz):∃arr,UM P o ⟨true,t,sz,.gen [ds]⟩ arr:=by
 obtain⟨i,u,hi,hu,hz,_,_,_,hzero⟩:=GR hT ht
 have hb:∀(c:Ctx) (w:World),UB c w ⟨true,t,sz,.gen [ds]⟩ u.cells:=λc w=>Y1 h0 hl (Jf hz c w)
 have fu:u.cells.size=sz:=by have:=LU hz;simp at this;omega
 refine⟨u.cells,⟨rfl,h0,⟨ds,rfl,hl,fu,λc w=>?_⟩,λev w=>?_⟩⟩
 ·have:=(hb c w).2
  simp only[if_true]at this
  obtain⟨e',h1,_,_,h4⟩:=this
  cases h1;exact h4
 ·simp only[execOp,ho,Instr.alloc,Sem.run_bind,hzero,Result.andThen_ok,Y2,Sem.run_pure]
structure Ju(P:Program)(G:List ba)(o:Oper)(env:List (Nat×D))(R:Rows)(ks:List Nat)(val:D)(R':Rows):Prop where
 ld:∀t a r ii off,o.guard=none->o.op=.load t (.tmp a)->look env a=.ptr r ii off->ks=[]/\R'=R/\(∃row,R.getD r none=some row)/\(∀(ev:Operand->D) (R2:Rows),ev (.tmp a)=.ptr r ii off->R2.getD r none=R.getD r none->pF P o ev R2 val R2)/\∀(ev:Operand->D) (R2:Rows) row (L:List (List Nat)),pw val=true->(∀kk∈L,val.ed kk=val)->ev (.tmp a)=.ptr r ii off->R.getD r none=some row->R2.getD r none=some (L.foldl (λr k=>Row.kill k r) row)->pF P o ev R2 val R2
 st:∀t b x r ii off,o.guard=none->o.op=.store t (.tmp b) x->look env b=.ptr r ii off->ks=[]/\∀r',r'≠r->R'.getD r' none=R.getD r' none
 pu:∀q,o.guard=none->lO env o.op=some q->ks=[]/\R'=R/\∀(ev:Operand->D) (R2:Rows),(∀x∈o.op.operands,ev x=cq env x)->pF P o ev R2 val R2
 cl:∀f args dj,o.guard=none->o.op=.call ⟨.value (.func f),args,dj⟩->(oU G f=none/\BD G f=false)->ks=[]
 al:∀t,o.guard=none->o.op=.alloc t->ks=[]/\∃row arr,UM P o row arr/\val=.ptr R.length 0 0/\R'=R++[some row]
 ap2:∀args dj,o.guard=none->o.op=.call ⟨.builtin .append,args,dj⟩->∀r row,R.getD r none=some row->cw r ks=false->R'.getD r none=some (row.kill ks)
 ap:∀args dj x l,o.guard=none->o.op=.call ⟨.builtin .append,args,dj⟩->args.toList=.tmp x::l->Jv (look env x)=true->ks=[]/\∀r row,R.getD r none=some row->R'.getD r none=some row
theorem AD{a:Nat}:∀{l:List Operand},a∈mH l↔Operand.tmp a∈l
 |[]=>by simp[mH]
 |x::l=>by cases x<;>simp[mH,AD (l:=l)]
theorem Zn4(h:px op=some q){a:Nat}(ha:Operand.tmp a∈op.operands):a∈q:=by
 unfold px at h
 split at h
 ·cases h;rw[AD];simpa[Op.operands]using ha
 ·cases h;rw[AD];simpa[Op.operands]using ha
 ·cases h;rw[AD];simpa[Op.operands]using ha
 ·cases h;rw[AD];simpa[Op.operands]using ha
 ·cases h;rw[AD];simpa[Op.operands]using ha
 ·split at h
  ·cases h
  ·cases h;rw[AD];simpa[Op.operands]using ha
 ·cases h
theorem Zdn(h:px op=some q):rV G op=false/\FW op=false/\(∀t x,op≠.load t x)/\(∀t x y,op≠.store t x y)/\∀c,op≠.call c:=by
 unfold px at h
 split at h<;>first|exact⟨rfl,rfl,λ_ _ h=>(by cases h),λ_ _ _ h=>(by cases h),λ_ h=>(by cases h)⟩|cases h
theorem vT(hq:px op=some q)(h:ic T op ev R K):
 ∃val,K val R/\∀(im:Operand->D) (R2:Rows),(∀x∈op.operands,im x=ev x)->ic T op im R2 λd R'=>d=val/\R'=R2:=by
 unfold px at hq
 split at hq
 ·rename_i x
  simp only[ic,D.c8]at h⊢
  exact⟨_,h,λim R2 he=>⟨he x (by simp[Op.operands]),trivial⟩⟩
 ·rename_i x
  simp only[ic,D.c8]at h⊢
  exact⟨_,h,λim R2 he=>⟨he x (by simp[Op.operands]),trivial⟩⟩
 ·rename_i x n
  simp only[ic]at h⊢
  split at h
  ·rename_i ds DT
   simp only[dd,D.c8]at h
   refine⟨_,h.2,λim R2 he=>?_⟩
   rw[he x (by simp[Op.operands]),DT]
   simp only[dd,D.c8]
   exact⟨h.1,trivial,trivial⟩
  ·exact h.elim
 ·rename_i x
  simp only[ic]at h⊢
  split at h
  ·rename_i hx
   refine⟨_,h,λim R2 he=>?_⟩
   rw[he x (by simp[Op.operands]),hx]
   simp
  ·rename_i hx
   refine⟨_,h,λim R2 he=>?_⟩
   rw[he x (by simp[Op.operands]),hx]
   simp
  ·exact h.elim
 ·rename_i t x f
  simp only[ic]at h⊢
  split at h
  ·simp only[dd]at h⊢
   obtain⟨h0,h⟩:=h
   split at h
   ·rename_i hx
    refine⟨_,h,λim R2 he=>⟨h0,?_⟩⟩
    rw[he x (by simp[Op.operands]),hx]
    simp
   ·rename_i hx
    refine⟨_,h,λim R2 he=>⟨h0,?_⟩⟩
    rw[he x (by simp[Op.operands]),hx]
    simp
   ·exact h.elim
  ·exact h.elim
 ·rename_i t len parts
  simp only[ic,Ho]at h⊢
  cases hl:Ur t len
  rotate_left
  ·simp only[hl]at hq;cases hq
  simp only[hl,w7]at h⊢
  obtain⟨val,h1,h2⟩:=Zo9 h
  exact⟨val,h1,λim R2 he=>h2 im R2 λp hp=>he p.2 (by simp[Op.operands];exact⟨p.1,by simpa using hp⟩)⟩
 ·cases hq
theorem xw(hq:px o.op=some q){K:St->Prop}(h:lL T G N M o st K):ic T o.op (cq st.env) st.rows λd R=>st.put N o.dst d R K:=by
 obtain⟨dst,op,type,pos,after,guard⟩:=o
 simp only at hq⊢
 unfold px at hq
 split at hq<;>first|exact h|cases hq
theorem xas{op:BinOp}{x y:D}{K:D->Prop}(h:sJ T op t x y K):∃val,K val/\∀K',K' val->sJ T op t x y K':=by
 unfold sJ at h⊢
 split at h
 ·split at h
  ·simp only[dd]at h⊢;exact⟨_,h.2,λK' h'=>⟨h.1,h'⟩⟩
  ·simp only[dd]at h⊢;exact⟨_,h.2,λK' h'=>⟨h.1,h'⟩⟩
  ·rename_i n1 n2
   simp only[dd]at h⊢
   obtain⟨h1,h⟩:=h
   unfold Uy at h⊢
   split at h<;>first|exact⟨_,h,λK' h'=>⟨h1,h'⟩⟩|(simp only[dd]at h⊢;exact⟨_,h.2,λK' h'=>⟨h1,h.1,h'⟩⟩)|exact h.elim
 ·split at h<;>first|exact⟨_,h,λK' h'=>h'⟩|(simp only[dd]at h⊢;exact⟨_,h.2,λK' h'=>⟨h.1,h'⟩⟩)|exact h.elim
 ·split at h
  ·split at h<;>first|exact⟨_,h,λK' h'=>h'⟩|exact h.elim
  ·exact h.elim
 ·split at h
  ·simp only[dd]at h⊢
   obtain⟨h1,h⟩:=h
   split at h<;>first|exact⟨_,h,λK' h'=>⟨h1,h'⟩⟩|exact h.elim
  ·exact h.elim
 ·exact h.elim
theorem qU{s d:TypeId}{x:D}{K:D->Prop}(h:L7 T s d x K):∃val,K val/\∀K',K' val->L7 T s d x K':=by
 unfold L7 at h⊢
 split at h
 ·split at h
  ·exact⟨_,h,λK' h'=>h'⟩
  ·exact h.elim
 ·split at h
  ·exact⟨_,h,λK' h'=>h'⟩
  ·exact h.elim
 ·exact h.elim
theorem ZJ{place:Nat->Option (Nat×Nat)}{ev:Operand->D}:∀{parts:List (Nat×Operand)} {cs:List D} {K:List D->Prop},Fg place ev parts cs K->∃l,K l/\∀(im:Operand->D) (K':List D->Prop),(∀p∈parts,im p.2=ev p.2)->K' l->Fg place im parts cs K'
 |[],cs,K,h=>by
  simp only[Fg,D.fe]at h⊢
  exact⟨_,h,λim K' _ h'=>h'⟩
 |(i,x)::ps,cs,K,h=>by
  simp only[Fg]at h⊢
  split at h
  ·rename_i off n hp
   simp only[dd]at h
   obtain⟨h1,h⟩:=h
   obtain⟨l,g1,g2⟩:=ZJ h
   refine⟨l,g1,λim K' he h'=>?_⟩
   have hx:=he (i,x) (by simp)
   simp only at hx
   simp only[hx,dd]
   exact⟨h1,g2 im K' (λp hpp=>he p (by simp[hpp])) h'⟩
  ·exact h.elim
theorem zw{parts:List (Nat×Operand)}(h:L9 T t parts ev R K):∃val,K val R/\∀(im:Operand->D) (R2:Rows),(∀p∈parts,im p.2=ev p.2)->L9 T t parts im R2 λd R'=>d=val/\R'=R2:=by
 unfold L9 at h⊢
 split at h
 ·simp only[dd]at h⊢
  obtain⟨h1,h⟩:=h
  obtain⟨l,g1,g2⟩:=ZJ h
  exact⟨_,g1,λim R2 he=>⟨h1,g2 im _ he (by simp)⟩⟩
 ·simp only[dd]at h⊢
  obtain⟨h1,h⟩:=h
  obtain⟨l,g1,g2⟩:=ZJ h
  exact⟨_,g1,λim R2 he=>⟨h1,g2 im _ he (by simp)⟩⟩
 ·exact h.elim
theorem ZK{str:List UInt8}{lo hi:Option Operand}(h:L8 T t (.str str) lo hi ev R K):∃val,K val R/\∀(im:Operand->D) (R2:Rows),(∀y,lo=some y->im y=ev y)->(∀y,hi=some y->im y=ev y)->L8 T t (.str str) lo hi im R2 λd R'=>d=val/\R'=R2:=by
 have QF:∀(x:Option Operand) (n:Int) (im:Operand->D),(∀y,x=some y->im y=ev y)->rO x im n=rO x ev n:=λx n im he=>by
  unfold rO
  cases x with
  |none=>rfl
  |some y=>simp only[he y rfl]
 unfold L8 at h⊢
 split at h
 ·rename_i x1 x2 x3 x4 x5 ht
  simp only at h
  split at h
  ·rename_i l hh e1 e2
   simp only[dd]at h
   refine⟨_,h.2,λim R2 he1 he2=>?_⟩
   simp only[QF _ _ im he1,QF _ _ im he2,e1,e2,dd]
   exact⟨h.1,trivial,trivial⟩
  ·exact h.elim
 ·simp only at h
 ·exact h.elim
 ·exact h.elim
theorem yw{env:List (Nat×D)}(hq:lO env op=some q)(h:ic T op (cq env) R K):
    ∃val,K val R/\ ∀(im:Operand->D) (R2:Rows),(∀x∈op.operands,im x=cq env x)->ic T op im R2 λd R'=>d=val/\R'=R2:=by
  unfold lO at hq
  split at hq
  . rename_i q' hp;exact vT hp h
  . split at hq
    . rename_i t parts hn
      simp only[ic]at h⊢
      obtain⟨val,g1,g2⟩:=zw h
      exact⟨val,g1,λim R2 he=>g2 im R2 λp hp=>he p.2 (by simp [Op.operands];exact⟨p.1,by simpa using hp⟩)⟩
    . rename_i op' t x y ty hn
      simp only[ic]at h⊢
      obtain⟨val,g1,g2⟩:=xas h
      refine⟨val,g1,λim R2 he=> ?_⟩
      rw[he x (by simp [Op.operands]),he y (by simp [Op.operands])]
      exact g2 _ (by simp)
    . rename_i op' t x hn
      simp only[ic]at h⊢
      split at h
      all_goals first
        |exact h.elim
        | (rename_i hx
           refine⟨_,h,λim R2 he=> ?_⟩
           rw[he x (by simp [Op.operands]),hx]
           simp)
    . rename_i s d x hn
      simp only[ic]at h⊢
      obtain⟨val,g1,g2⟩:=qU h
      refine⟨val,g1,λim R2 he=> ?_⟩
      rw[he x (by simp [Op.operands])]
      exact g2 _ (by simp)
    . rename_i s x f hn
      simp only[ic]at h⊢
      split at h
      . split at h
        . rename_i cs ti hx ht
          simp only[dd]at h
          obtain⟨h1,h⟩:=h
          split at h
          . rename_i CF
            simp only[D.fe]at h
            refine⟨_,h,λim R2 he=> ?_⟩
            simp only[he x (by simp [Op.operands]),hx,ht,dd,CF,D.fe]
            exact⟨h1,trivial,trivial⟩
          . rename_i CF
            simp only[dd,D.c8]at h
            refine⟨_,h.2,λim R2 he=> ?_⟩
            simp only[he x (by simp [Op.operands]),hx,ht,dd,CF,D.c8]
            exact⟨h1,h.1,trivial,trivial⟩
        . exact h.elim
      . exact h.elim
    . rename_i t x y hn
      simp only[ic]at h⊢
      split at h
      . rename_i ht hx hy
        simp only[dd]at h
        refine⟨_,h.2,λim R2 he=> ?_⟩
        simp only[he x (by simp [Op.operands]),he y (by simp [Op.operands]),hx,hy,ht,dd]
        exact⟨h.1,trivial,trivial⟩
      . rename_i ht hx hy
        simp only[dd]at h
        obtain⟨h1,h⟩:=h
        split at h
        . rename_i wV
          refine⟨_,h.2,λim R2 he=> ?_⟩
          simp only[he x (by simp [Op.operands]),he y (by simp [Op.operands]),hx,hy,ht,dd,wV]
          exact⟨h1,h.1,trivial,trivial⟩
        . rename_i wV
          refine⟨_,h.2,λim R2 he=> ?_⟩
          simp only[he x (by simp [Op.operands]),he y (by simp [Op.operands]),hx,hy,ht,dd,wV]
          exact⟨h1,h.1,trivial,trivial⟩
        . exact h.elim
      . exact h.elim
    . rename_i t x y z hn
      split at hq
      . rename_i str hx
        simp only[ic,hx]at h⊢
        obtain⟨val,g1,g2⟩:=ZK h
        refine⟨val,g1,λim R2 he=> ?_⟩
        rw[he x (by simp [Op.operands]),hx]
        exact g2 im R2 (λu hu=>he u (by cases hu;simp [Op.operands])) (λu hu=>he u (by cases hu;simp [Op.operands]))
      . cases hq
    . rename_i t x y hn
      split at hq
      . rename_i str hx
        simp only[ic,hx]at h⊢
        obtain⟨val,g1,g2⟩:=ZK h
        refine⟨val,g1,λim R2 he=> ?_⟩
        rw[he x (by simp [Op.operands]),hx]
        exact g2 im R2 (λu hu=>he u (by cases hu;simp [Op.operands])) (λu hu=>he u (by cases hu))
      . cases hq
    . rename_i t x y hn
      split at hq
      . rename_i str hx
        simp only[ic,hx]at h⊢
        obtain⟨val,g1,g2⟩:=ZK h
        refine⟨val,g1,λim R2 he=> ?_⟩
        rw[he x (by simp [Op.operands]),hx]
        exact g2 im R2 (λu hu=>he u (by cases hu)) (λu hu=>he u (by cases hu;simp [Op.operands]))
      . cases hq
    . rename_i t x y hn
      split at hq
      . rename_i sz es fr hx
        simp only[ic,hx]at h⊢
        split at h
        . rename_i k n hy
          unfold UA at h⊢
          split at h
          . rename_i ht
            simp only[dd]at h
            refine⟨_,h.2,λim R2 he=> ?_⟩
            simp only[he x (by simp [Op.operands]),he y (by simp [Op.operands]),hx,hy,ht,dd]
            exact⟨h.1,trivial,trivial⟩
          . simp only[dd]at h
            exact h.2.elim
          . exact h.elim
        . exact h.elim
      . cases hq
    . rename_i t x hn
      split at hq
      . rename_i sz es i off hx
        simp only[ic,hx]at h⊢
        unfold wG at h⊢
        split at h
        . exact h.elim
        . rename_i ti ht
          simp only[dd]at h
          obtain⟨d,g1,g2⟩:=UL h.2
          refine⟨d,g1,λim R2 he=> ?_⟩
          simp only[he x (by simp [Op.operands]),hx,ht,dd]
          exact⟨h.1,g2 _ (by simp)⟩
      . cases hq
    . rename_i args dj hn
      split at hq
      . rename_i x fv
        have hxm:x∈(Op.call {callee:= .builtin .len,args:=args,argTypes:=dj}).operands:=by simp [Op.operands,Call.operands];rw[<-gL,fv];simp
        simp only[ic,fv]at h⊢
        split at h
        . rename_i y t e1 e2
          cases e1
          rw[e2]at*
          split at hq
          . rename_i str hx
            simp only[hx]at h⊢
            unfold sO at h⊢
            split at h
            . simp only at h
              exact⟨_,h,λim R2 he=>by simp only[he x hxm,hx];simp⟩
            . exact h.elim
            . exact h.elim
          . rename_i sz es fr hx
            simp only[hx]at h⊢
            unfold sO at h⊢
            split at h
            . exact h.elim
            . simp only at h
              exact⟨_,h,λim R2 he=>by simp only[he x hxm,hx];simp⟩
            . exact h.elim
          . cases hq
        . exact h.elim
      . cases hq
    . cases hq
theorem ZL{env:List (Nat×D)}(h:lO env op=some q){a:Nat}(ha:Operand.tmp a∈op.operands):a∈q:=by
 unfold lO at h
 split at h
 ·cases h;exact Zn4 (by assumption) ha
 ·split at h
  all_goals first
   |(cases h;done)
   |(cases h;rw[AD];simpa[Op.operands]using ha)
   |(split at h<;>first|(cases h;done)|(cases h;rw[AD];simpa[Op.operands]using ha))
   |skip
  split at h
  ·rename_i x hx
   have jB:Operand.tmp a=x:=by
    simp[Op.operands,Call.operands]at ha
    rw[<-gL,hx]at ha
    simpa using ha
   split at h<;>first|(cases h;done)|(cases h;rw[AD,jB];simp)
  ·cases h
theorem Z50{env:List (Nat×D)}(h:lO env op=some q):rV G op=false/\FW op=false/\(∀t x y,op≠.store t x y)/\(∀f args dj,op≠.call ⟨.value (.func f),args,dj⟩)/\∀t,op≠.alloc t:=by
 unfold lO at h
 split at h
 ·rename_i q' hp
  obtain⟨h1,h2,h3,h4,h5⟩:=Zdn (G:=G) hp
  exact⟨h1,h2,h4,λ_ _ _=>h5 _,λt e=>by rw[e]at hp;cases hp⟩
 ·split at h<;>first|(cases h;done)|exact⟨rfl,rfl,λ_ _ _ h=>(by cases h),λ_ _ _ h=>(by cases h),λ_ h=>(by cases h)⟩
theorem Zrb(hq:lO st.env o.op=some q){K:St->Prop}(h:lL T G N M o st K):ic T o.op (cq st.env) st.rows λd R=>st.put N o.dst d R K:=by
  obtain⟨dst,op,type,pos,after,guard⟩:=o
  simp only at hq⊢
  unfold lO at hq
  split at hq
  . rename_i q' hp
    exact xw (o:=⟨dst,op,type,pos,after,guard⟩) hp h
  . split at hq
    all_goals first
      |(cases hq;done)
      |exact h
      |skip
    . rename_i op' t x y ty hn
      unfold lL at h
      simp only at h
      split at h
      . rename_i hx hy
        rw[hx]at hq;cases hq
      . rename_i hx hy
        rw[hx]at hq;cases hq
      . exact h
    . rename_i s d x hn
      unfold lL at h
      simp only at h
      split at h
      . exfalso
        unfold u5 at h
        split at h
        . split at h
          . rename_i he
            split at hq
            . rename_i hx;rw[hx]at he;cases he
            . rename_i hx;rw[hx]at he;cases he
            . cases hq
          . exact h
        . exact h
      . exact h
def sT:D->Bool|.all _=>true|.int _ _=>true|.str _=>true|.bool _=>true|.sl _ _ _=>true|.iv _ _ _ _=>true|.ptr _ _ _=>true|.emp=>true|.c9=>true|_=>false
theorem Zdi(h:Jv d=true):sT d=true:=by cases d<;>first|rfl|cases h
theorem ZM(h:Hp d=true):sT d=true:=by cases d<;>first|rfl|cases h
theorem Zly{ks:List Nat}{d p:D}(hp:sT p=true)(h:d.gp ks=p):d=p:=by
 subst h
 cases d with
 |all x=>simp only[D.gp,D.kill,D.ed]at hp⊢;cases hb:cw x ks<;>simp[hb,sT]at hp⊢
 |own x y z=>simp only[D.gp,D.kill,D.ed]at hp⊢;cases hb:cw x ks<;>simp[hb,sT]at hp
 |ptr x y z=>simp only[D.gp,D.kill,D.ed]at hp⊢;cases hb:cw x ks<;>simp[hb,sT]at hp⊢
 |pa x y z u v q=>simp only[D.gp,D.kill,D.ed]at hp⊢;cases hb:cw x ks<;>simp[hb,sT]at hp
 |gh x=>simp only[D.gp,D.kill,D.ed]at hp⊢;cases hb:cw x ks<;>simp[hb,sT]at hp
 |gl f cs=>simp only[D.gp,D.kill,D.ed]at hp⊢;cases hb:nJ (om cs) ks<;>simp[hb,sT]at hp
 |_=>first|rfl|simp[D.gp,D.kill,D.ed,sT]at hp
theorem Zt1{env mb:List (Nat×D)}(h:lO env op=some q)(hb: ∀a∈q,sT (look env a)=true->look mb a=look env a):lO mb op=some q:=by
  have one: ∀(x:Operand),(∀a,x= .tmp a->a∈q)->sT (cq env x)=true->cq mb x=cq env x:=λx hx hs=>by
    cases x with
    |tmp a=>exact hb a (hx a rfl) hs
    |_=>rfl
  unfold lO at h⊢
  split at h
  . exact h
  . split at h
    all_goals first
      |(cases h;done)
      |exact h
      |skip
    all_goals
      split at h
      all_goals first
        |(cases h;done)
        | (rename_i hx
           cases h
           first
             |(have:=one _ (λa e=>by rw[AD,<-e];exact eU) (by rw[hx];rfl);rw[this,hx])
             |(have:=one _ (λa e=>by rw[AD,<-e];simp) (by rw[hx];rfl);rw[this,hx]))
        |skip
    split at h
    all_goals first
      |(cases h;done)
      | (rename_i hx
         cases h
         have:=one _ (λa e=>by rw[AD,<-e];exact eU) (by rw[hx];rfl);rw[this,hx])
theorem vw{t tx:TypeId}{x y:D}{K:List Nat->D->Rows->Prop}(h:LS T M t tx x y R K):
 LS T M t tx x y R λks d R'=>((Jv x=true->ks=[]/\∀r row,R.getD r none=some row->R'.getD r none=some row)/\∀r row,R.getD r none=some row->cw r ks=false->R'.getD r none=some (row.kill ks))/\K ks d R':=by
 have go:∀{e sz lB:Nat} {Jw:List Nat} {es ys:ai},(Jv x=true->Jw=[])->Cv e sz lB R Jw es ys K->Cv e sz lB R Jw es ys λks d R'=>((Jv x=true->ks=[]/\∀r row,R.getD r none=some row->R'.getD r none=some row)/\∀r row,R.getD r none=some row->cw r ks=false->R'.getD r none=some (row.kill ks))/\K ks d R':=by
  intro e sz lB Jw es ys hx h
  simp only[Cv,dd,nf]at h⊢
  have key:∀r row,R.getD r none=some row->cw r Jw=false->(rL Jw R 0++[some (⟨false,e,sz,es.app ys⟩:Row)]).getD r none=some (row.kill Jw):=λr row hr hm=>by
   have hl:r<R.length:=by
    by_cases hh:r<R.length
    ·exact hh
    ·simp only[aV,aJ (show R.length<=r by omega)]at hr;cases hr
   rw[Qpr (by rw[I4];exact hl),Pw,hr,Nat.zero_add,hm]
   simp
  refine⟨h.1,⟨λe=>⟨hx e,λr row hr=>?_⟩,key⟩,h.2⟩
  have:=key r row hr (by rw[hx e];rfl)
  rw[this,hx e,Z6w]
 unfold LS at h⊢
 split at h
 ·split at h
  ·split at h
   ·rename_i jR
    simp only[dd]at h⊢
    refine⟨h.1,?_⟩
    have h:=h.2
    cases x<;>first|(exact h.elim;done)|(exact go (λ_=>rfl) h;done)|skip
    all_goals
     (try simp only at h⊢)
     split at h
     ·exact⟨h.1,go (λe=>by cases e) h.2⟩
     ·exact h.elim
   ·exact h.elim
  ·exact h.elim
 ·exact h.elim
theorem Zsr(hT:ji P T)(hG:jz P G){l:List Oper}{K:St->Prop}(h:lR T G N M ops (o::l) st K):
    ∃ks val R' iG,(∀t,look iG t=look (rT ks st.env) t)/\(∀t,o.dst=some t->t<N)/\nu P G M ops o st.env st.rows ks val R'/\lR T G N M ops l ⟨rU iG o.dst val,R'⟩ K/\Ju P G o st.env st.rows ks val R':=by
  by_cases hL: ∃t a r ii off,o.guard=none/\o.op= .load t (.tmp a)/\look st.env a= .ptr r ii off
  . obtain⟨t,a,r,ii,off,hg,ho,ha⟩:=hL
    simp only[lR,hg,lL,ho,ic,cq,ha]at h
    obtain⟨d,h1,h2,h3⟩:=Zl9 h
    obtain⟨g1,g2⟩:=oF h1
    have hN: ∀(ev:Operand->D) (R2:Rows),ev (.tmp a)= .ptr r ii off->R2.getD r none=st.rows.getD r none->pF P o ev R2 d R2:=λev R2 he uz=>by
      have:=h3 R2 uz
      obtain⟨val,R',⟨rfl,rfl⟩,hO⟩:=MV hT o ev R2 (λd' R'=>d'=d/\R'=R2) (by simp only[ho,ic,he];exact this)
      simpa [ho,FW] using hO
    have hN2: ∀(ev:Operand->D) (R2:Rows) row (L:List (List Nat)),pw d=true->(∀kk∈L,d.ed kk=d)->ev (.tmp a)= .ptr r ii off->st.rows.getD r none=some row->R2.getD r none=some (L.foldl (λr k=>Row.kill k r) row)->pF P o ev R2 d R2:=λev R2 row L hd hL he hr uz=>by
      have:=Zrs (h3 st.rows rfl) hd hL hr uz
      obtain⟨val,R',⟨rfl,rfl⟩,hO⟩:=MV hT o ev R2 (λd' R'=>d'=d/\R'=R2) (by simp only[ho,ic,he];exact this)
      simpa [ho,FW] using hO
    refine⟨[],d,st.rows,st.env,λt=>oD.symm,g1,?_,g2,λt' a' r' lY iL _ jo jB=> ?_,λt' b x r' lY iL _ jo=> ?_,λq _ hq=> ?_,λf args dj _ hf _=>by simp [ho]at hf,λt' _ hf=>by simp [ho]at hf,λargs dj _ hf=>by simp [ho]at hf,λargs dj x' l' _ hf=>by simp [ho]at hf⟩
    . unfold nu
      simp only[hg]
      exact AL (by rw[ho];rfl) (hN _ _ (by simp [cq,ha]) rfl)
    . rw[ho]at jo;cases jo
      rw[ha]at jB;cases jB
      exact⟨rfl,rfl,h2,hN,hN2⟩
    . rw[ho]at jo;cases jo
    . rw[ho]at hq;simp [lO,px,cq,ha]at hq
  . by_cases hS : ∃t b x r ii off,o.guard=none/\o.op= .store t (.tmp b) x/\look st.env b= .ptr r ii off
    . obtain⟨t,b,x,r,ii,off,hg,ho,hb⟩:=hS
      simp only[lR,hg,lL,ho,ic]at h
      rw[show cq st.env (.tmp b)= .ptr r ii off by simp [cq,hb]]at h
      obtain⟨R',h1,h2,h3⟩:=Zef h
      obtain⟨g1,g2⟩:=oF h1
      obtain⟨val,R2,⟨rfl,rfl⟩,hO⟩:=MV hT o (cq st.env) st.rows (λd' R2=>d'= .dead/\R2=R') (by simp only[ho,ic];rw[show cq st.env (.tmp b)= .ptr r ii off by simp [cq,hb]];exact h3)
      refine⟨[], .dead,R2,st.env,λt=>oD.symm,g1,?_,g2,λt' a' r' lY iL _ jo=> ?_,λt' b' x' r' lY iL _ jo rF=> ?_,λq _ hq=> ?_,λf args dj _ hf _=>by simp [ho]at hf,λt' _ hf=>by simp [ho]at hf,λargs dj _ hf=>by simp [ho]at hf,λargs dj x' l' _ hf=>by simp [ho]at hf⟩
      . unfold nu
        simp only[hg]
        have hO':Eg P o (cq st.env) st.rows .dead R2:=by simpa [ho,FW] using hO
        exact BB (by rw[ho];rfl) (λk hk=>by simp [cw]at hk) hO'.toK
      . rw[ho]at jo;cases jo
      . rw[ho]at jo;cases jo
        rw[hb]at rF;cases rF
        exact⟨rfl,h2⟩
      . rw[ho]at hq;cases hq
    . by_cases hP : ∃q,o.guard=none/\lO st.env o.op=some q
      . obtain⟨q,hg,hq⟩:=hP
        simp only[lR,hg]at h
        have rC:=Zrb hq h
        obtain⟨val,ZN,ZO⟩:=yw hq rC
        obtain⟨hW,hS',MO,hnc,hna⟩:=Z50 (G:=G) hq
        have hN: ∀(ev:Operand->D) (R2:Rows),(∀x∈o.op.operands,ev x=cq st.env x)->pF P o ev R2 val R2:=λev R2 he=>by
          obtain⟨Jap,R',⟨rfl,rfl⟩,hO⟩:=MV hT o ev R2 _ (ZO ev R2 he)
          simpa [hS'] using hO
        obtain⟨g1,g2⟩:=oF ZN
        refine⟨[],val,st.rows,st.env,λt=>oD.symm,g1,?_,g2,λt' a' r' lY iL hg' jo jB=>(hL ⟨t',a',r',lY,iL,hg',jo,jB⟩).elim,λt' b' x' r' lY iL _ jo=>(MO _ _ _ jo).elim,λq' _ Fu=>⟨rfl,rfl,hN⟩,λf args dj _ hf _=>(hnc _ _ _ hf).elim,λt' _ hf=>(hna _ hf).elim,λargs dj _ hf=>by rw[hf]at hq;simp [lO,px]at hq,λargs dj x' l' _ hf=>by rw[hf]at hq;simp [lO,px]at hq⟩
        unfold nu
        simp only[hg]
        exact AL hW (hN _ _ (λ_ _=>rfl))
      . by_cases hC: ∃f args dj,o.guard=none/\o.op= .call ⟨.value (.func f),args,dj⟩/\(oU G f=none/\BD G f=false)
        . obtain⟨f,args,dj,hg,ho,lK,Ef⟩:=hC
          obtain⟨dst,op,type,pos,after,guard⟩:=o
          simp only at hg ho
          subst hg;subst ho
          simp only[lR,lL,lK,Ef]at h
          have HR: ∀x,oG G f=some x->x.oV=false:=λx hx=>by simpa [BD,hx] using Ef
          obtain⟨val,R',x,hK,hx,hO,hN⟩:=V2 (dst:=dst) (type:=type) (pos':=pos) (after:=after) (guard:=none) (dj:=dj) hG lK h
          obtain⟨g1,g2⟩:=oF hK
          refine⟨[],_,_,st.env,λt=>oD.symm,g1,?_,g2,λt' a' r' lY iL _ jo=>(by cases jo),λt' b' x' r' lY iL _ jo=>(by cases jo),λq' _ Fu=>(by cases Fu),λ_ _ _ _ _ _=>rfl,λt' _ hf=>(by cases hf),λargs dj _ hf=>(by cases hf),λargs dj x' l' _ hf=>(by cases hf)⟩
          unfold nu
          cases hr:x.refs with
          |nil=>exact AL (by simp only[rV,hx,hr,HR x hx]) (hN hr)
          |cons b bs=>exact BB (by simp only[rV,hx,hr]) (λk hk=>by simp [cw]at hk) hO.toK
        . by_cases hAl: ∃t,o.guard=none/\o.op= .alloc t
          . obtain⟨t,hg,ho⟩:=hAl
            obtain⟨dst,op,type,pos,after,guard⟩:=o
            simp only at hg ho
            subst hg;subst ho
            simp only[lR,lL,ic]at h
            split at h
            . rename_i ht
              simp only[dd,aE,Ka]at h
              obtain⟨⟨h0,hl⟩,h⟩:=h
              obtain⟨g1,g2⟩:=oF h
              obtain⟨arr,hA⟩:=Zsj (o:=⟨dst, .alloc t,type,pos,after,none⟩) hT rfl ht (lE h0) (bE hl)
              refine⟨[],_,_,st.env,λt=>oD.symm,g1,?_,g2,λt' a' r' lY iL _ jo=>(by cases jo),λt' b' x' r' lY iL _ jo=>(by cases jo),λq' _ Fu=>(by cases Fu),λ_ _ _ _ hf=>(by cases hf),λt' _ hf=>⟨rfl,_,arr,hA,rfl,rfl⟩,λargs dj _ hf=>(by cases hf),λargs dj x' l' _ hf=>(by cases hf)⟩
              unfold nu
              exact AL rfl (Qn λc w a hm Sh ei=>⟨_,rfl,Zot hT ht (lE h0) (bE hl) st.rows.length c w⟩)
            . exact h.elim
          by_cases ZP: ∃args dj,o.guard=none/\o.op= .call ⟨.builtin .append,args,dj⟩
          . obtain⟨args,dj,hg,ho⟩:=ZP
            obtain⟨dst,op,type,pos,after,guard⟩:=o
            simp only at hg ho
            subst hg;subst ho
            simp only[lR,lL]at h
            split at h
            . rename_i x y t tx o4 ht
              have Jx:args= #[x,y]:=by rw[<-bW (xs:=args),o4]
              have ua:dj= #[t,tx]:=by rw[<-bW (xs:=dj),ht]
              subst Jx;subst ua
              have h':=vw h
              obtain⟨ks,R',⟨⟨ZQ,Cx⟩,hK⟩,hM,hr⟩:=Zou (ty:=type) hT h'
              rw[HQ]at hK
              obtain⟨h1,h2⟩:=oF hK
              refine⟨ks,_,_,_,λt=>rfl,h1,?_,h2,λt' a' r' lY iL _ jo=>(by cases jo),λt' b' x' r' lY iL _ jo=>(by cases jo),λq' _ Fu=>(by cases Fu),λ_ _ _ _ hf=>(by cases hf),λt' _ hf=>(by cases hf),λargs dj _ hf r row hr hm=>Cx r row hr hm,λargs dj x' l' _ hf ha he=> ?_⟩
              rotate_left
              . cases hf
                have hx:x= .tmp x':=by
                  have:=congrArg List.head? ha
                  simpa using this
                subst hx
                exact ZQ he
              unfold nu
              refine BB rfl hM λc w a hm hb hR ei K' Q pW=> ?_
              obtain⟨v',w',c',il,hn,jY,hv⟩:=hr c w _ _ hm hb hR (ei x (by simp [Op.operands,Call.operands])) (ei y (by simp [Op.operands,Call.operands]))
              refine FX ?_ (pW v' w' c' hn jY hv)
              simp only[execOp,resolve,Sem.run_bind,Sem.run_pure,Result.andThen_ok,invoke,builtin]
              have:(#[x,y]:Array Operand).map a.eval= #[a.eval x,a.eval y]:=by simp
              rw[this,il];rfl
            . exact h.elim
          obtain⟨ks,val,R',iG,h0,h1,h2,h3⟩:=VJ hT hG h
          exact⟨ks,val,R',iG,h0,h1,h2,h3,λt a r ii off hg ho ha=>(hL ⟨t,a,r,ii,off,hg,ho,ha⟩).elim,λt b x r ii off hg ho hb=>(hS ⟨t,b,x,r,ii,off,hg,ho,hb⟩).elim,λq hg hq=>(hP ⟨q,hg,hq⟩).elim,λf args dj hg ho lK=>(hC ⟨f,args,dj,hg,ho,lK⟩).elim,λt hg ho=>(hAl ⟨t,hg,ho⟩).elim,λargs dj hg ho=>(ZP ⟨args,dj,hg,ho⟩).elim,λargs dj x l' hg ho ha he=>(ZP ⟨args,dj,hg,ho⟩).elim⟩
theorem QG(h:pw d=true):sT d=true:=by cases d<;>first|rfl|cases h
theorem qx{ks:List Nat}(h:d.gp ks=.ptr r i off):d=.ptr r i off:=by
 cases d with
 |all x=>simp only[D.gp,D.kill,D.ed]at h;cases hb:cw x ks<;>rw[hb]at h<;>cases h
 |own x y z=>simp only[D.gp,D.kill,D.ed]at h;cases hb:cw x ks<;>rw[hb]at h<;>cases h
 |ptr x y z=>simp only[D.gp,D.kill,D.ed]at h;cases hb:cw x ks<;>rw[hb]at h<;>cases h;rfl
 |pa x y z u v q=>simp only[D.gp,D.kill,D.ed]at h;cases hb:cw x ks<;>rw[hb]at h<;>cases h
 |gh x=>simp only[D.gp,D.kill,D.ed]at h;cases hb:cw x ks<;>rw[hb]at h<;>cases h
 |gl f cs=>simp only[D.gp,D.kill,D.ed]at h;cases hb:nJ (om cs) ks<;>rw[hb]at h<;>cases h
 |dw ds=>simp[D.gp]at h
 |agg ds=>simp[D.gp,D.kill]at h
 |_=>simp[D.gp,D.kill,D.ed]at h
theorem Jy{i a k:Nat}(h:kU ops i a=true)(hk:i<=k)(ho:ops[k]?=some o):o.dst≠some a:=by
 intro hd
 have hm:o∈ops.toList.drop i:=by
  have h1:(ops.toList.drop i)[k-i]?=some o:=by
   rw[List.getElem?_drop,show i+(k-i)=k by omega];simpa using ho
  exact fL h1
 have:=List.all_eq_true.1 h o hm
 simp[hd]at this
theorem Zsx{f:FuncId}(h:(match oU G f with|some _=>true|none=>BD G f)=false):oU G f=none/\BD G f=false:=by
 cases hg:oU G f with
 |none=>rw[hg]at h;exact⟨rfl,h⟩
 |some k=>rw[hg]at h;cases h
def Jz(ops:Array Oper)(env:List (Nat×D))(i:Nat)(o:Oper)(q:List Nat):Prop:=
 (∀a∈q,kU ops i a=true/\Hp (look env a)=true)/\∀t,o.dst=some t->kU ops (i+1) t=true/\Hp (look env t)=true
theorem UN{env:List (Nat×D)}(h:px op=some q):lO env op=some q:=by
 unfold lO;rw[h]
theorem QH{env:List (Nat×D)}(hx:ops[i]?=some x)(hy:ops[j]?=some y)(h:Mf G ops env i j=true):
 (∃t a t' b z r r' ii off lY iL,x.guard=none/\y.guard=none/\x.op=.load t (.tmp a)/\y.op=.store t' (.tmp b) z/\kU ops i a=true/\kU ops j b=true/\look env a=.ptr r ii off/\look env b=.ptr r' lY iL/\r≠r')\/
 (∃q,x.guard=none/\y.guard=none/\lO env x.op=some q/\(∀a∈q,kU ops i a=true)/\((∃t' b z r' lY iL,y.op=.store t' (.tmp b) z/\kU ops j b=true/\look env b=.ptr r' lY iL)\/∃f args dj,y.op=.call ⟨.value (.func f),args,dj⟩/\(oU G f=none/\BD G f=false)))\/
 (∃q,x.guard=none/\px x.op=some q/\Jz ops env i x q)\/
 (∃t a r ii off args dj x0 l,x.guard=none/\y.guard=none/\x.op=.load t (.tmp a)/\kU ops i a=true/\look env a=.ptr r ii off/\y.op=.call ⟨.builtin .append,args,dj⟩/\args.toList=.tmp x0::l/\kU ops j x0=true/\Jv (look env x0)=true)\/
 (∃t a r ii off args dj td,x.guard=none/\y.guard=none/\x.op=.load t (.tmp a)/\kU ops i a=true/\look env a=.ptr r ii off/\y.op=.call ⟨.builtin .append,args,dj⟩/\x.dst=some td/\kU ops (i+1) td=true/\pw (look env td)=true):=by
 unfold Mf at h
 simp only[hx,hy]at h
 split at h
 ·rename_i t a t' b z h1 h2 h3 h4
  simp only[aE]at h
  obtain⟨g1,g2,g3⟩:=h
  split at g3
  ·rename_i r ii off r' lY iL e1 e2
   refine .inl ⟨t,a,t',b,z,r,r',ii,off,lY,iL,h1,h2,h3,h4,g1,g2,e1,e2,λe=>?_⟩
   subst e
   simp at g3
  ·rename_i sz es k off r' lY iL e1 e2
   exact .inr (.inl ⟨[a],h1,h2,by rw[h3];simp[lO,px,cq,e1,mH],λa' ha=>by simp at ha;subst ha;exact g1,.inl ⟨t',b,z,r',lY,iL,h4,g2,e2⟩⟩)
  ·cases g3
 ·rename_i op t' b z h1 h2 h4 _
  split at h
  ·rename_i q hq
   simp only[aE]at h
   obtain⟨g1,g2,g3⟩:=h
   split at g3
   ·rename_i r' lY iL e2
    exact .inr (.inl ⟨q,h1,h2,hq,λa ha=>List.all_eq_true.1 g1 a ha,.inl ⟨t',b,z,r',lY,iL,h4,g2,e2⟩⟩)
   ·cases g3
  ·cases h
 ·rename_i op f dj h1 h2 h4
  split at h
  ·cases h
  ·rename_i H0
   have ZR:=Zsx H0
   split at h
   ·rename_i q hq
    exact .inr (.inl ⟨q,by assumption,by assumption,hq,λa ha=>List.all_eq_true.1 h a ha,.inr ⟨_,_,_,by assumption,ZR⟩⟩)
   ·cases h
 ·rename_i op args dj h1 h2 h4 _
  split at h
  ·rename_i q hq
   simp only[aE]at h
   refine .inr (.inr (.inl ⟨q,by assumption,hq,λa ha=>?_,λt ht=>?_⟩))
   ·have:=List.all_eq_true.1 h.1 a ha
    simpa only[aE]using this
   ·have:=h.2
    simp only[ht,aE]at this
    exact this
  ·have QI:∀{d:D},Hp d=true->∃r ii off,d=.ptr r ii off:=fun{d} k=>by
    cases d<;>first|(cases k;done)|exact⟨_,_,_,rfl⟩
   rcases Bool.or_eq_true_iff.1 h with h|h
   ·unfold CY at h
    split at h
    ·rename_i t a x0 l ZS hl
     simp only[aE]at h
     obtain⟨k1,k2,k3,k4⟩:=h
     obtain⟨r,ii,off,hr⟩:=QI k3
     exact .inr (.inr (.inr (.inl ⟨t,a,r,ii,off,dj,h1,x0,l,by assumption,by assumption,ZS,k1,hr,by assumption,hl,k2,k4⟩)))
    ·cases h
   ·unfold CZ at h
    split at h
    ·rename_i t a td ZS tK
     simp only[aE]at h
     obtain⟨k1,k2,k3,k4⟩:=h
     obtain⟨r,ii,off,hr⟩:=QI k2
     exact .inr (.inr (.inr (.inr ⟨t,a,r,ii,off,dj,h1,td,by assumption,by assumption,ZS,k1,hr,by assumption,tK,k3,k4⟩)))
    ·cases h
 ·cases h
theorem Znx(hy:ops[j]?=some y)(h:uN ops j=true):(∃t,y.guard=none/\y.op=.alloc t)/\∀u,y.dst=some u->∀k o',k≠j->ops[k]?=some o'->o'.dst≠some u:=by
 unfold uN at h
 simp only[hy]at h
 split at h
 ·rename_i t h1 h2
  refine⟨⟨t,h1,h2⟩,λu hu k o' hk dx hd=>?_⟩
  simp only[hu]at h
  have bd:=(Array.getElem?_eq_some_iff.1 dx).1
  have:=List.all_eq_true.1 h k (List.mem_range.2 bd)
  simp only[dx,aW,hd,aT]at this
  rcases this with this|this
  ·exact hk (bE this)
  ·simp at this
 ·cases h
theorem Fv{env:List (Nat×D)}(h:QJ G ops env=true)(JU:i<j)(hx:ops[i]?=some x)(hy:ops[j]?=some y):
 (x.apart ops y=true\/((Region.before ops).getD j 0).testBit i=true)/\((kX G x.op=true/\kX G y.op=true)\/((Region.before ops).getD j 0).testBit i=true\/Mf G ops env i j=true\/((∃t,y.guard=none/\y.op=.alloc t)/\∀u,y.dst=some u->∀k o',k≠j->ops[k]?=some o'->o'.dst≠some u)):=by
 have hj:=(Array.getElem?_eq_some_iff.1 hy).1
 have h1:=List.all_eq_true.1 h j (List.mem_range.2 hj)
 simp only[aE]at h1
 have h2:=List.all_eq_true.1 h1.2 i (List.mem_range.2 JU)
 unfold wN at h2
 simp only[hx,hy,aE,aT]at h2
 exact⟨h2.1,h2.2.elim (λg=>g.elim .inl (λg=>.inr (.inl g))) (λg=>g.elim (λg=>.inr (.inr (.inl g))) (λg=>.inr (.inr (.inr (Znx hy g)))))⟩
theorem Zk7{env:List (Nat×D)}(h:QJ G ops env=true)(hy:ops[j]?=some y):∀e∈y.after,Region.binds .any e=true->e.on<j:=by
 have hj:=(Array.getElem?_eq_some_iff.1 hy).1
 have h1:=List.all_eq_true.1 h j (List.mem_range.2 hj)
 simp only[aE,hy]at h1
 intro e he hb
 have:=Array.all_eq_true'.1 h1.1 e he
 simp only[hb,Bool.not_true,Bool.false_or]at this
 exact lE this
theorem qat{env:List (Nat×D)}{ks:List Nat}{val:D}{R':Rows}(hi:ops[i]?=some o)
 (hm:Mem c w) (hb:c.base<=w.heap.size) (hR:∀r,c.R r=R.getD r none) (ei:∀t∈o.looksAt ops,Rep c w (look env t) (a.tmps.getD t undef)) (hG:nu P G M ops o env R ks val R') {K:Act->World->Prop} {Q:Exit->Act->World->Prop}
 (hK:∀v w' c',(∀k,cw k ks=true->M<=k)->jK ks c w c' w'->(∀r,c'.R r=R'.getD r none)->Rep c' w' val v->K (a.put o.dst v) w'):wpOp P ops Q i K a w:=by
 have hx:∀x∈o.op.operands,Rep c w (cq env x) (a.eval x):=λx hx=>by
  cases x with
  |tmp t=>
   refine ei t ?_
   unfold Oper.looksAt
   exact eS _ (List.mem_filterMap.2 ⟨.tmp t,by simpa using hx,rfl⟩)
  |const v=>
   simp only[cq,Act.eval]
   cases hv:FO v with
   |none=>trivial
   |some d=>exact MQ hv c w
  |global g=>trivial
  |func f=>exact JZ f
 have run:pB P G M o (cq env) R ks val R'->o.nd P a w K Q:=λhX=>hX.toK.2 c w a hm hb hR hx K Q λv w' c' h1 h2 h3=>hK v w' c' hX.toK.1 h1 h2 h3
 have skip:ks=[]->val=.dw []->R'=R->K (a.put o.dst undef) w:=λe0 e1 e2=>by
  subst e0;subst e1;subst e2
  exact hK undef w c (λk hk=>by simp[cw]at hk) (lJ.toK ⟨hm,jc.refl _ _,Fr.refl _ _,λb hb=>.inl hb,λr row hr v=>.inl ⟨⟨row,hr⟩,v,rfl⟩⟩) hR (Si _ _)
 unfold wpOp
 simp only[hi]
 unfold nu at hG
 cases hg:o.guard with
 |none=>
  simp only[hg]at hG
  have hw:Region.wanted o (yielded ops a.tmps)=true:=by simp[Region.wanted,hg]
  rw[if_pos hw]
  exact run hG
 |some jw=>
  obtain⟨j,want⟩:=jw
  simp only[hg]at hG
  obtain⟨g,h2,hG⟩:=hG
  have hr:=ei g (by
   unfold Oper.looksAt
   refine eX _ ?_
   simp only[hg,h2];simp)
  rcases hG with⟨b,h3,h4⟩|⟨h3,e0,e1,e2⟩
  rotate_left
  ·rw[h3]at hr
   rw[if_neg (by rw[Sj (o:=o) hg h2 hr];simp)]
   exact skip e0 e1 e2
  rw[h3]at hr
  have hw:=Sk (o:=o) hg h2 hr
  by_cases e:b=want
  ·rw[if_pos e]at h4
   rw[if_pos (by rw[hw];simpa using e)]
   exact run h4
  ·rw[if_neg e]at h4
   rw[if_neg (by rw[hw];simpa using e)]
   exact skip h4.1 h4.2.1 h4.2.2
structure UO(P:Program)(G:List ba)(N M:Nat)(ops:Array Oper)(s:Nat->St)(ks:Nat->List Nat)(val:Nat->D):Prop extends Chain P G N M ops s ks val where
 my:∀(i:Nat) (o:Oper),ops[i]?=some o->Ju P G o (s i).env (s i).rows (ks i) (val i) (s (i+1)).rows
theorem Zhe{P:Program}{T:iB}(hT:ji P T){G:List ba}(hG:jz P G){N M:Nat}{ops:Array Oper}{K:St->Prop}:∀(l:List Oper) (k:Nat) (st:St),ops.toList.drop k=l->lR T G N M ops l st K->
 ∃ (s:Nat->St) (ks:Nat->List Nat) (val:Nat->D),s k=st/\K (s (k+l.length))/\(∀(i:Nat) (o:Oper),k<=i->ops[i]?=some o->nu P G M ops o (s i).env (s i).rows (ks i) (val i) (s (i+1)).rows)/\
  (∀(i:Nat) (o:Oper) (t:Nat),k<=i->ops[i]?=some o->look (s (i+1)).env t=if o.dst=some t then val i else look (rT (ks i) (s i).env) t)/\(∀(i:Nat) (o:Oper) (t:Nat),k<=i->ops[i]?=some o->o.dst=some t->t<N)/\
  (∀(i:Nat) (o:Oper),k<=i->ops[i]?=some o->Ju P G o (s i).env (s i).rows (ks i) (val i) (s (i+1)).rows)
 |[],k,st,hk,h=>by
  have hlen:ops.size<=k:=by
   have:=congrArg List.length hk
   simp at this;omega
  have no:∀(i:Nat) (o:Oper),k<=i->ops[i]?=some o->False:=λi o hi ho=>by
   have:=(Array.getElem?_eq_some_iff.1 ho).1;omega
  exact⟨λ_=>st,λ_=>[],λ_=>.dead,rfl,h,λi o hi ho=>(no i o hi ho).elim,λi o t hi ho=>(no i o hi ho).elim,λi o t hi ho=>(no i o hi ho).elim,λi o hi ho=>(no i o hi ho).elim⟩
 |o ::l,k,st,hk,h=>by
  have bd:k<ops.toList.length:=by
   by_cases bd:k<ops.toList.length
   ·exact bd
   ·rw[List.drop_eq_nil_of_le (by omega)]at hk;cases hk
  rw[List.drop_eq_getElem_cons bd]at hk
  have ho:ops[k]?=some o:=by
   have:=(List.cons.inj hk).1
   rw[<-this]
   simp at bd
   simp[bd]
  obtain⟨kk,v,R',iG,h1,h2,h3,h4,h5⟩:=Zsr hT hG h
  obtain⟨s,ks,val,g1,g2,g3,g4,g5,g6⟩:=Zhe hT hG l (k+1) _ (List.cons.inj hk).2 h4
  refine⟨λi=>if i=k then st else s i,λi=>if i=k then kk else ks i,λi=>if i=k then v else val i,by simp,?_,λi p hi hp=>?_,λi p t hi hp=>?_,λi p t hi hp hd=>?_,λi p hi hp=>?_⟩
  ·simp only[List.length_cons]
   rw[if_neg (by omega),show k+(l.length+1)=k+1+l.length by omega]
   exact g2
  ·by_cases e:i=k
   ·subst e
    rw[ho]at hp;cases hp
    simp only[if_true,show¬i+1=i by omega,if_false,g1]
    exact h3
   ·simp only[if_neg e,if_neg (show¬i+1=k by omega)]
    exact g3 i p (by omega) hp
  ·by_cases e:i=k
   ·subst e
    rw[ho]at hp;cases hp
    simp only[if_true,show¬i+1=i by omega,if_false,g1]
    cases tK:o.dst with
    |none=>simp[rU,h1]
    |some u=>simp only[rU,AJ,Option.some.injEq,h1]
   ·simp only[if_neg e,if_neg (show¬i+1=k by omega)]
    exact g4 i p t (by omega) hp
  ·by_cases e:i=k
   ·subst e
    rw[ho]at hp;cases hp
    exact h2 t hd
   ·exact g5 i p t (by omega) hp hd
  ·by_cases e:i=k
   ·subst e
    rw[ho]at hp;cases hp
    simp only[if_true,show¬i+1=i by omega,if_false,g1]
    exact h5
   ·simp only[if_neg e,if_neg (show¬i+1=k by omega)]
    exact g6 i p (by omega) hp
section
variable {P:Program} {G:List ba} {N M:Nat} {ops:Array Oper} {s:Nat->St} {ks:Nat->List Nat} {val:Nat->D} (hc:UO P G N M ops s ks val)
include hc
theorem Qg{i a r ii off:Nat}(hn:kU ops i a=true)(h:look (s ops.size).env a=.ptr r ii off):∀{k:Nat},i<=k->k<=ops.size->look (s k).env a=.ptr r ii off:=by
 intro k nY hk
 obtain⟨n,P6⟩:∃n,ops.size=k+n:=⟨ops.size-k,by omega⟩
 have:∀n k,i<=k->k+n<=ops.size->look (s (k+n)).env a=.ptr r ii off->look (s k).env a=.ptr r ii off:=by
  intro n
  induction n with
  |zero=>intro k _ _ h;exact h
  |succ n ih=>
   intro k h1 h2 h3
   have ho:ops[k]?=some ops[k]:=aU (by omega)
   have h4:=ih (k+1) (by omega) (by omega) (by rw[show k+1+n=k+(n+1) by omega];exact h3)
   rw[hc.env k _ a ho,if_neg (Jy hn h1 ho),BC]at h4
   exact qx h4
 exact this n k nY (by omega) (by rw[<-P6];exact h)
theorem DV{i a:Nat}(hn:kU ops i a=true)(h:sT (look (s ops.size).env a)=true):∀{k:Nat},i<=k->k<=ops.size->look (s k).env a=look (s ops.size).env a:=by
 intro k nY hk
 obtain⟨n,P6⟩:∃n,ops.size=k+n:=⟨ops.size-k,by omega⟩
 have:∀n k,i<=k->k+n<=ops.size->∀p,sT p=true->look (s (k+n)).env a=p->look (s k).env a=p:=by
  intro n
  induction n with
  |zero=>intro k _ _ p _ h;exact h
  |succ n ih=>
   intro k h1 h2 p hp h3
   have ho:ops[k]?=some ops[k]:=aU (by omega)
   have h4:=ih (k+1) (by omega) (by omega) p hp (by rw[show k+1+n=k+(n+1) by omega];exact h3)
   rw[hc.env k _ a ho,if_neg (Jy hn h1 ho),BC]at h4
   exact Zly hp h4
 exact this n k nY (by omega) _ h (by rw[<-P6])
theorem Zol(h:lO (s ops.size).env op=some q)(hq:∀a∈q,kU ops i a=true)(h1:i<=k)(h2:k<=ops.size):lO (s k).env op=some q:=
 Zt1 h λa ha hs=>DV hc (hq a ha) hs h1 h2
theorem ZT{dr:Nat->Bool}{c:Nat}{t:Nat}:∀{n:Nat},(∀i o,i<n->ops[c+i]?=some o->o.dst=some t->dr (c+i)=false)->jd ops s val dr c n t=look (s c).env t
 |0,_=>rfl
 |n + 1,h=>by
  simp only[jd]
  rw[if_neg]
  ·exact ZT (λi o hi=>h i o (by omega))
  ·rintro⟨g1,g2⟩
   cases hk:ops[c+n]? with
   |none=>rw[hk]at g2;cases g2
   |some o=>
    rw[hk]at g2
    rw[h n o (by omega) hk g2]at g1;cases g1
theorem Zib{dr:Nat->Bool}{c d:Nat}{t:Nat}(hq:∀(i:Nat) (o:Oper),c<=i->i<d->ops[i]?=some o->kX G o.op=true)(hd:d<=ops.size):∀{n:Nat},c+n<=d->(∀i o,i<n->ops[c+i]?=some o->o.dst=some t->dr (c+i)=true)->jd ops s val dr c n t=look (s (c+n)).env t
 |0,_,_=>rfl
 |n +1,hn,hl=>by
  have ho:ops[c+n]?=some ops[c+n]:=aU (by omega)
  simp only[jd,ho,aW]
  rw[show c+(n+1)=(c+n)+1 by omega,hc.toChain.Eb ho (hq _ _ (by omega) (by omega) ho) t]
  by_cases pj:ops[c+n].dst=some t
  ·rw[if_pos ⟨hl n _ (by omega) ho pj,pj⟩,if_pos pj]
  ·rw[if_neg (λg=>pj g.2),if_neg pj]
   exact Zib hq hd (by omega) (λi o hi=>hl i o (by omega))
theorem Zbt{dr:Nat->Bool}{c d:Nat}(hq:∀(i:Nat) (o:Oper),c<=i->i<d->ops[i]?=some o->kX G o.op=true)(hd:d<=ops.size):∀{n:Nat},c+n<=d->(∀i,i<n->dr (c+i)=true\/(s (c+i+1)).rows=(s (c+i)).rows)->∀r,kq s dr c n r=(s (c+n)).rows.getD r none
 |0,_,_,r=>rfl
 |n + 1,hn,hl,r=>by
  simp only[kq]
  rw[show c+(n+1)=c+n+1 by omega]
  have hlen:=JX hc.toChain hq hd (show c<=c+n by omega) (show c+n<=c+n+1 by omega) (by omega)
  have ih:=Zbt hq hd (n:=n) (by omega) (λi hi=>hl i (by omega)) r
  rcases hl n (by omega)with h|h
  ·simp only[h,true_and]
   split
   ·rfl
   ·rw[ih]
    by_cases h2:r<(s (c+n)).rows.length
    ·exact(JY hc.toChain hq hd (by omega) (by omega) (by omega) h2).symm
    ·simp only[aV]
     rw[aJ (by omega),aJ (by omega)]
  ·rw[if_neg (by rw[h];omega),ih,h]
theorem Zko{dr:Nat->Bool}{c d:Nat}(hq:∀(i:Nat) (o:Oper),c<=i->i<d->ops[i]?=some o->kX G o.op=true)(hd:d<=ops.size){r:Nat}(hr:r<(s c).rows.length):∀{n:Nat},c+n<=d->kq s dr c n r=(s c).rows.getD r none
 |0,_=>rfl
 |n+1,hn=>by
  simp only[kq]
  have hlen:=JX hc.toChain hq hd (show c<=c by omega) (show c<=c+n by omega) (by omega)
  rw[if_neg (by omega)]
  exact Zko hq hd hr (by omega)
end
structure sU(w0:World)(cx:Ctx)(w:World)(b:Nat)(arr:Array Value)(ty:TypeId):Prop where
 jC:w0.heap.size<=b
 lt:b<w.heap.size
 here:w.heap[b]?=some (.cells arr ty (0,0))
 fh:¬cx.I b
 row:∀r row,cx.R r=some row->¬cx.V r->cx.ρ r≠b
theorem sU.du{ks:List Nat}{ty:TypeId}(h:sU w0 c w b arr ty)(n:jK ks c w c' w'):sU w0 c' w' b arr ty:=by
 refine⟨h.jC,bM h.lt n.fr.size,(n.fr.heap b h.lt fun⟨r,x,h1,h2,h3⟩=>h.row r x h1 h2 h3).trans h.here,λhb=>?_,λr row hr hv e=>?_⟩
 ·rcases n.fh b hb with g|⟨s,x,_,g1,g2,g3⟩|g
  ·exact h.fh g
  ·exact h.row s x g1 g2 g3
  ·have:=h.lt;omega
 ·rcases n.ob r row hr hv with⟨⟨x,g1⟩,g2,g3⟩|⟨s,x,_,g1,g2,g3⟩|g
  ·exact h.row r x g1 g2 (by rw[<-g3];exact e)
  ·exact h.row s x g1 g2 (by rw[<-g3];exact e)
  ·have:=h.lt;omega
theorem xx(h:o.dst≠some u):(a.put o.dst v).tmps.getD u undef=a.tmps.getD u undef:=by
 cases ho:o.dst with
 |none=>simp[Act.put]
 |some x=>
  have gq:x≠u:=λe=>h (by rw[ho,e])
  simp[Act.put,aZ gq]
theorem xU{dst:Option Tmp}(h:dst=some u)(bd:u<a.tmps.size):(a.put dst v).tmps.getD u undef=v:=by
 subst h
 simp[Act.put,aY,bd]
def Mg(P:Program)(ops:Array Oper)(s:Nat->St)(val:Nat->D)(w0:World)(cx:Ctx)(w:World)(a:Act)(i b:Nat):Prop:=
 ∃ o t row arr,ops[i]?=some o/\o.guard=none/\o.op=.alloc t/\UM P o row arr/\val i=.ptr (s i).rows.length 0 0/\(s (i+1)).rows=(s i).rows++[some row]/\sU w0 cx w b arr row.ty/\
  (∀u,o.dst=some u->a.tmps.getD u undef=.pointer (some ⟨b,0,none⟩))/\∀u,o.dst=some u->∀k o',k≠i->ops[k]?=some o'->o'.dst≠some u
theorem Mg.du{ks:List Nat}(h:Mg P ops s val w0 c w a k b)(n:jK ks c w c' w')(nY:i≠k)(ho:ops[i]?=some o):Mg P ops s val w0 c' w' (a.put o.dst v) k b:=by
 obtain⟨o',t,row,arr,g1,g2,g3,g4,g5,g6,g7,g8,g9⟩:=h
 exact⟨o',t,row,arr,g1,g2,g3,g4,g5,g6,g7.du n,λu hu=>by rw[xx (g9 u hu i o nY ho)];exact g8 u hu,g9⟩
theorem ZU(hm:Mem c w)(o:Obj):jc c w c (w.alloc o):=
 ⟨rfl,aX _,λb hb=>⟨hb,Ab w o b (hm.fh b hb).1⟩,λr x hr=>⟨x,hr,rfl,rfl,rfl,rfl,rfl,Iff.rfl,λnv arr ha=>⟨arr,by rw[Ab w o _ (hm.lt hr nv)];exact ha,rfl⟩⟩⟩
theorem ZV(w:World)(o:Obj):(w.alloc o).heap.size=w.heap.size+1:=by show(w.heap.push o).size=_;simp
theorem Zrp(hm:Mem c w)(o:Obj):Mem c (w.alloc o):=
 ⟨λr row hr=>tk (ZU hm o) rfl Iff.rfl (λnv=>Ab w o _ (hm.lt hr nv)) (hm.row r row hr),hm.inj,(λb hb=>⟨by have:=(hm.fh b hb).1;rw[ZV];omega,(hm.fh b hb).2⟩),by have:=hm.top;rw[ZV];omega,hm.jV.mono (ZU hm o).I⟩
theorem Zip(hk:c.R k=none)(row:Row)(b:Nat):jc c w (c.add k row b) w:=by
 refine⟨rfl,aX _,λb hb=>⟨hb,rfl⟩,λr x hr=>?_⟩
 have gq:r≠k:=λe=>by rw[e,hk]at hr;cases hr
 exact⟨x,by simp[Ctx.add,gq,hr],rfl,rfl,rfl,rfl,by simp[Ctx.add,gq],by simp[Ctx.add,gq],λnv arr ha=>⟨arr,ha,rfl⟩⟩
theorem zat(hm:Mem c w)(hk:c.R k=none)(hA:UM P o row arr)(hl:sU w0 c w b arr row.ty):Mem (c.add k row b) w:=by
 have hg:=Zip (w:=w) hk row b
 have jC:∀r x,r≠k->(c.add k row b).R r=some x->c.R r=some x/\(c.add k row b).ρ r=c.ρ r/\((c.add k row b).V r↔c.V r):=λr x e h=>⟨by simpa[Ctx.add,e]using h,by simp[Ctx.add,e],by simp[Ctx.add,e]⟩
 refine⟨λr x hr=>?_,λr s x y hr hs v1 v2 he=>?_,λb' hb=>⟨(hm.fh b' hb).1,λr x hr v=>?_⟩,hm.top,hm.jV⟩
 ·by_cases e:r=k
  ·subst e
   simp only[Ctx.add,if_true,Option.some.injEq]at hr
   subst hr
   obtain⟨e,h1,h2,h3,h4⟩:=hA.cells
   refine .inr ⟨by simp[Ctx.add],arr,by simp only[Ctx.add,if_true];exact hl.here,hA.sz,?_⟩
   rw[if_pos hA.box]
   exact⟨e,h1,h2,h3,h4 _ _⟩
  ·obtain⟨g1,g2,g3⟩:=jC r x e hr
   exact tk hg g2 g3 (λ_=>rfl) (hm.row r x g1)
 ·by_cases e1:r=k<;>by_cases e2:s=k
  ·rw[e1,e2]
  ·obtain⟨g1,g2,g3⟩:=jC s y e2 hs
   exfalso
   refine hl.row s y g1 (λe=>v2 (g3.2 e)) ?_
   rw[<-g2,<-he,e1];simp[Ctx.add]
  ·obtain⟨g1,g2,g3⟩:=jC r x e1 hr
   exfalso
   refine hl.row r x g1 (λe=>v1 (g3.2 e)) ?_
   rw[<-g2,he,e2];simp[Ctx.add]
  ·obtain⟨g1,g2,g3⟩:=jC r x e1 hr
   obtain⟨k1,k2,k3⟩:=jC s y e2 hs
   exact hm.inj r s x y g1 k1 (λe=>v1 (g3.2 e)) (λe=>v2 (k3.2 e)) (by rw[<-g2,<-k2];exact he)
 ·by_cases e:r=k
  ·subst e
   simp only[Ctx.add,if_true]
   intro e;subst e
   exact hl.fh hb
  ·obtain⟨g1,g2,g3⟩:=jC r x e hr
   rw[g2];exact(hm.fh b' hb).2 r x g1 (λe=>v (g3.2 e))
def QK(ops:Array Oper)(env:List (Nat×D))(i:Nat)(o:Oper):Prop:=∃td,o.dst=some td/\kU ops (i+1) td=true/\pw (look env td)=true
def QL(ops:Array Oper)(s:Nat->St)(ks:Nat->List Nat)(i c:Nat):Prop:=
 (∃o t a r ii off row ao,ops[i]?=some o/\o.guard=none/\o.op=.load t (.tmp a)/\kU ops i a=true/\look (s ops.size).env a=.ptr r ii off/\(s i).rows.getD r none=some row/\(s c).rows.getD r none=some ao/\((ao=row/\∀k,i<k->k<c->ks k=[])\/(QK ops (s ops.size).env i o/\∃L:List (List Nat),ao=L.foldl (λr k=>Row.kill k r) row/\∀kk∈L,∃j,i<j/\j<c/\kk=ks j)))\/
 (∃o q,ops[i]?=some o/\o.guard=none/\lO (s ops.size).env o.op=some q/\(∀a∈q,kU ops i a=true)/\((∀k,i<k->k<c->ks k=[])\/Jz ops (s ops.size).env i o q))
structure Inv2(P:Program)(G:List ba)(N M:Nat)(ops:Array Oper)(s:Nat->St)(ks:Nat->List Nat)(val:Nat->D)(c0:Ctx)(w0:World)(dr:Nat->Bool)(a:Act)(w:World)(c d:Nat):Prop where
 cd:c<=d
 dn:d<=ops.size
 pre:∀i,i<c->dr i=true\/QL ops s ks i c
 quiet:∀(i:Nat) (o:Oper),c<=i->i<d->ops[i]?=some o->kX G o.op=true
 wr:∀(o:Oper),ops[d]?=some o->kX G o.op=false
 closed:∀j,dr j=true->∀(o:Oper),ops[j]?=some o->∀e∈o.after,Region.binds .any e=true->dr e.on=true
 size:N<=a.tmps.size
 defers:lU w0.heap.size w a.defers
 fy:c0.base<=w0.heap.size
 gr:∀r row,c0.R r=some row->r<M
 ctx:∃(cx:Ctx) (B:Nat->Nat),Mem cx w/\(∀r,cx.R r=kq s dr c (d-c) r)/\(∀t,(∀k o,k<c->dr k=false->ops[k]?=some o->o.dst≠some t)->(∀k o,d<=k->dr k=true->ops[k]?=some o->o.dst≠some t)->Rep cx w (jd ops s val dr c (d-c) t) (a.tmps.getD t undef))/\wW c0 w0 cx w/\
  (∀i,d<=i->dr i=true->Mg P ops s val w0 cx w a i (B i))/\(∀i j,d<=i->d<=j->dr i=true->dr j=true->B i=B j->i=j)
theorem UP{t:Nat}(hs:N<=a.tmps.size)(hd:∀u,o.dst=some u->u<N)(h1:o.dst=some t->Rep c' w' d v)(h2:o.dst≠some t->Rep c' w' d (a.tmps.getD t undef)):Rep c' w' d ((a.put o.dst v).tmps.getD t undef):=by
 cases ho:o.dst with
 |none=>simpa[Act.put]using h2 (by rw[ho];simp)
 |some u=>
  by_cases e:u=t
  ·subst e
   have hu:u<a.tmps.size:=bM (hd u ho) hs
   simpa[Act.put,aY,hu]using h1 ho
  ·have:=h2 (by rw[ho];intro h;exact e (Option.some.inj h))
   simpa[Act.put,aZ e]using this
theorem QM{ks:Nat->List Nat}(hc:UO P G N M ops s ks val){c d:Nat}
 (hq:∀(i:Nat) (o:Oper),c<=i->i<d->ops[i]?=some o->kX G o.op=true) (hd:d<=ops.size)
 (h:∃(cx:Ctx) (B:Nat->Nat),Mem cx w/\(∀r,cx.R r=(s c).rows.getD r none)/\(∀t,(∀k o,k<c->dr k=false->ops[k]?=some o->o.dst≠some t)->(∀k o,c<=k->dr k=true->ops[k]?=some o->o.dst≠some t)->Rep cx w (look (s c).env t) (a.tmps.getD t undef))/\wW c0 w0 cx w/\
  (∀i,c<=i->dr i=true->Mg P ops s val w0 cx w a i (B i))/\(∀i j,c<=i->c<=j->dr i=true->dr j=true->B i=B j->i=j)):
 ∀ n,c+n<=d->∃(cx:Ctx) (B:Nat->Nat),Mem cx w/\(∀r,cx.R r=kq s dr c n r)/\(∀t,(∀k o,k<c->dr k=false->ops[k]?=some o->o.dst≠some t)->(∀k o,c+n<=k->dr k=true->ops[k]?=some o->o.dst≠some t)->Rep cx w (jd ops s val dr c n t) (a.tmps.getD t undef))/\wW c0 w0 cx w/\
  (∀i,c+n<=i->dr i=true->Mg P ops s val w0 cx w a i (B i))/\(∀i j,c+n<=i->c+n<=j->dr i=true->dr j=true->B i=B j->i=j):=by
 have hlen:∀k l,c<=k->k<=l->l<=d->(s k).rows.length<=(s l).rows.length:=λk l h1 h2 h3=>JX hc.toChain hq hd h1 h2 h3
 have QN:∀n,c+n<=d->∀r,(s (c+n)).rows.length<=r->kq s dr c n r=none:=by
  intro n
  induction n with
  |zero=>intro _ r hr;simp only[kq];simp only[aB]at hr;rw[aV,aJ hr];rfl
  |succ n ih=>
   intro hn r hr
   simp only[kq]
   have:=hlen (c+n) (c+n+1) (by omega) (by omega) (by omega)
   rw[show c+(n+1)=c+n+1 by omega]at hr
   rw[if_neg (by omega)]
   exact ih (by omega) r (by omega)
 intro n
 induction n with
 |zero=>intro _;simpa only[kq,jd,aB]using h
 |succ n ih=>
  intro hn
  obtain⟨cx,B,hm,hR,hE,nX,nK,ow⟩:=ih (by omega)
  cases hl:dr (c+n)with
  |false=>
   refine⟨cx,B,hm,λr=>?_,λt ht he=>?_,nX,λi hi GS=>nK i (by omega) GS,λi j hi hj=>ow i j (by omega) (by omega)⟩
   ·simp only[kq,hl,aA,false_and,if_false];exact hR r
   ·simp only[jd,hl,aA,false_and,if_false]
    refine hE t ht λk o hk oA=>he k o ?_ oA
    by_cases e:k=c+n
    ·rw[e,hl]at oA;cases oA
    ·omega
  |true=>
   obtain⟨o,ty,row,arr,g1,g2,g3,g4,g5,g6,g7,g8,g9⟩:=nK (c+n) (aX _) hl
   have hk:cx.R (s (c+n)).rows.length=none:=by rw[hR];exact QN n (by omega) _ (aX _)
   have hg:=Zip (w:=w) hk row (B (c+n))
   refine⟨cx.add (s (c+n)).rows.length row (B (c+n)),B,zat hm hk g4 g7,λr=>?_,λt ht he=>?_,⟨nX.cz.trans hg,nX.fr,nX.fh,λr x hr hv=>?_,nX.xb⟩,λi hi GS=>?_,λi j hi hj=>ow i j (by omega) (by omega)⟩
   ·simp only[kq,hl,true_and,g6,lA,List.length_singleton]
    by_cases e:r=(s (c+n)).rows.length
    ·subst e
     rw[if_pos ⟨aX _,Nat.lt_succ_self _⟩]
     simp[Ctx.add,aV]
    ·rw[if_neg (by omega)]
     simp only[Ctx.add,if_neg e];exact hR r
   ·simp only[jd,hl,true_and,g1,aW]
    split
    ·rename_i tK
     rw[g8 t tK,g5]
     obtain⟨e,q1,_⟩:=g4.cells
     exact⟨row,(Ctx.ja _ _ _ _).1,by simp[Ctx.add],by rw[q1];simp[ai.l],by simp[(Ctx.ja _ _ _ _).2]⟩
    ·rename_i tK
     refine wX hg (hE t ht λk o' uW oA dx=>?_)
     by_cases e:k=c+n
     ·subst e;rw[g1]at dx;cases dx;exact tK
     ·exact he k o' (by omega) oA dx
   ·by_cases e:r=(s (c+n)).rows.length
    ·right;right
     rw[e];simp only[Ctx.add,if_true];exact g7.jC
    ·have pC:cx.R r=some x:=by simpa[Ctx.add,e]using hr
     have DZ:¬cx.V r:=by simpa[Ctx.add,e]using hv
     have:=nX.ob r x pC DZ
     simpa only[Ctx.add,if_neg e]using this
   ·obtain⟨o',t',ao,iK,f1,f2,f3,f4,f5,f6,f7,f8,f9⟩:=nK i (by omega) GS
    refine⟨o',t',ao,iK,f1,f2,f3,f4,f5,f6,⟨f7.jC,f7.lt,f7.here,f7.fh,λr x hr hv e'=>?_⟩,f8,f9⟩
    by_cases e:r=(s (c+n)).rows.length
    ·rw[e]at e'
     simp only[Ctx.add,if_true]at e'
     have:=ow (c+n) i (aX _) (by omega) hl GS e'
     omega
    ·exact f7.row r x (by simpa[Ctx.add,e]using hr) (by simpa[Ctx.add,e]using hv) (by simpa only[Ctx.add,if_neg e]using e')
section
variable {P:Program} {G:List ba} {N M:Nat} {ops:Array Oper} {s:Nat->St} {ks:Nat->List Nat} {val:Nat->D} (hc:UO P G N M ops s ks val) (lT:QJ G ops (s ops.size).env=true)
include hc lT
theorem zx {c0 :Ctx}{dr gd:Nat->Bool}{c d i:Nat}(hI:Inv2 P G N M ops s ks val c0 w0 dr a w c d)(ho:ops[i]? =some o)(h0:dr i=false)(h1:gd i=true)(h2: ∀k,k≠i->gd k=dr k)
    (MN: ∀e∈o.after,Region.binds .any e=true->dr e.on=true) {K:Act->World->Prop} {Q:Exit->Act->World->Prop} (hK: ∀a' w' c' d',Inv2 P G N M ops s ks val c0 w0 gd a' w' c' d'->K a' w'):wpOp P ops Q i K a w:=by
  have bd:=(Array.getElem?_eq_some_iff.1 ho).1
  have pU: ∀k,((Region.before ops).getD i 0).testBit k=true->dr k=true:=λk hk=>
    Sa (ar:=λk=>dr k=true) hI.closed (λo' jo=>by rw[ho]at jo;cases jo;exact MN) hk
  have nW: ∀j k,dr j=true->((Region.before ops).getD j 0).testBit k=true->dr k=true:=λj k hj hk=>
    Sa (ar:=λk=>dr k=true) hI.closed (hI.closed j hj) hk
  have tL: ∀j,gd j=true-> ∀(o:Oper),ops[j]? =some o-> ∀e∈o.after,Region.binds .any e=true->gd e.on=true:=by
    intro j hj o' jo e he hb
    have gq:dr e.on=true:=by
      by_cases e':j=i
      . subst e';rw[ho]at jo;cases jo;exact MN e he hb
      . rw[h2 j e']at hj;exact hI.closed j hj o' jo e he hb
    rw[h2 e.on (λe'=>by rw[e',h0]at gq;cases gq)]
    exact gq
  have Dq: ∀{x:Oper} {t:TypeId} {y:Operand},x.op= .load t y->kX G x.op=true:=λh=>by rw[h];rfl
  have hpu: ∀{x:Oper} {env:List (Nat×D)} {q:List Nat},lO env x.op=some q->kX G x.op=true:=λh=>by
    unfold kX;rw[(Z50 (G:=G) h).1];rfl
  have GQ: ∀{x:Oper} {t:TypeId},x.op= .alloc t->kX G x.op=true:=λh=>by rw[h];rfl
  obtain⟨cx,B,hm,hR,hE,nX,nK,ow⟩:=hI.ctx
  have Fa:dr d=false:=by
    cases hl:dr d with
    |false=>rfl
    | true=>
      obtain⟨o',t,_,_,g1,_,g3,_⟩:=nK d (aX _) hl
      have:=hI.wr _ g1
      rw[GQ g3]at this;cases this
  have hid:i<=d\/(d<i/\(∃t,o.guard=none/\o.op= .alloc t)/\ ∀u,o.dst=some u-> ∀k o',k≠i->ops[k]? =some o'->o'.dst≠some u):=by
    by_cases h:i<=d
    . exact .inl h
    . right
      have Br:ops[d]? =some ops[d]:=aU (by omega)
      have:=(Fv lT (show d<i by omega) Br ho).2
      rcases this with⟨hq,_⟩|hb|hb|hb
      . rw[hI.wr _ Br]at hq;cases hq
      . have:=pU d hb
        rw[Fa]at this;cases this
      . rcases QH Br ho hb with⟨t,b,t',b',z,r,r',ii,off,lY,iL,g1,g2,g3,_⟩|⟨q,g1,g2,g3,_⟩|⟨q,g1,g3,_⟩|⟨_,_,_,_,_,_,_,_,_,g1,g2,g3,_⟩|⟨_,_,_,_,_,_,_,_,g1,g2,g3,_⟩
        . have:=Dq g3
          rw[hI.wr _ Br]at this;cases this
        . have:=hpu g3
          rw[hI.wr _ Br]at this;cases this
        . have:=hpu (UN (env:=[]) g3)
          rw[hI.wr _ Br]at this;cases this
        . have:=Dq g3
          rw[hI.wr _ Br]at this;cases this
        . have:=Dq g3
          rw[hI.wr _ Br]at this;cases this
      . exact⟨by omega,hb⟩
  have VV:=hI.cd
  have HJ:=hI.dn
  have jj:cx.base<=w.heap.size:=by rw[nX.cz.base];exact Nat.le_trans hI.fy nX.fr.size
  have seen: ∀k o' t,k<i->ops[k]? =some o'->o'.dst=some t->t∈o.looksAt ops->dr k=true:=by
    intro k o' t hk jo hd ht
    rcases(Fv lT hk jo ho).1 with tM|hb
    . exact((FN tM).2.1 hd ht).elim
    . exact pU _ hb
  have Da: ∀k o' t,d<=k->dr k=true->ops[k]? =some o'->t∈o.looksAt ops->i<=d->o'.dst≠some t:=by
    intro k o' t hk hl jo ht hid hd
    have nY:i<k:=by
      by_cases e:k=i
      . rw[e,h0]at hl;cases hl
      . omega
    rcases(Fv lT nY ho jo).1 with tM|hb
    . exact(FN tM).2.2 hd ht
    . have:=nW _ _ hl hb
      rw[h0]at this;cases this
  rcases hid with hid|⟨hdi,⟨t0,ZW,ho0⟩,J2⟩
  rotate_left
  ·
    obtain⟨hks,row,arr,hA,hv,db⟩:=(hc.my i o ho).al t0 ZW ho0
    unfold wpOp
    simp only[ho]
    have hw:Region.wanted o (yielded ops a.tmps)=true:=by simp [Region.wanted,ZW]
    rw[if_pos hw]
    refine FX (hA.run a.eval w) ?_
    have hmn:=Zrp hm (.cells arr row.ty)
    have wa:=ZU hm (.cells arr row.ty)
    have hn:jK [] cx w cx (w.alloc (.cells arr row.ty)):=lJ.toK ⟨hmn,wa,Fr.alloc _ w _,λb hb=> .inl hb,λr row hr v=> .inl ⟨⟨row,hr⟩,v,rfl⟩⟩
    refine hK _ _ c d ⟨hI.cd,hI.dn,λk hk=>by rw[h2 k (by omega)];exact hI.pre k hk,hI.quiet,hI.wr,tL,?_,?_,hI.fy,hI.gr,cx,λk=>if k=i then w.heap.size else B k,hmn,λr=> ?_,λt ht he=> ?_,nX.step (ks:=[]) (λk hk=>by simp [cw]at hk) hI.gr hn,λk hdk hl=> ?_,λk j hk hj oA Hq e=> ?_⟩
    . cases hd:o.dst<;>simp [Act.put]<;>exact hI.size
    . first|exact lU.put (hI.defers.step hm hn.fr)|exact lU.put (hI.defers.step hm hn.toW.fr)
    . rw[hR,Sg (λk hk=>h2 _ (by omega))]
    . rw[Sf (λk hk=>h2 _ (by omega))]
      refine UP hI.size (λu=>hc.dst i o u ho) (λhd=>(he i o (by omega) h1 ho hd).elim) (λhd=> ?_)
      exact wX wa (hE t (λk o' hk hl dx=>ht k o' hk (by rw[h2 k (by omega)];exact hl) dx) (λk o' hk hl dx=>he k o' hk (by rw[h2 k (λe'=>by rw[e',h0]at hl;cases hl)];exact hl) dx))
    . by_cases e:k=i
      . subst e
        simp only[if_true]
        exact⟨o,t0,row,arr,ho,ZW,ho0,hA,hv,db,⟨nX.fr.size,by rw[ZV];omega,Uk w _,λhb=>by have:=(hm.fh _ hb).1;omega,λr ao hr DZ e=>by have:=hm.lt hr DZ;omega⟩,λu hu=>xU hu (bM (hc.dst k o u ho hu) hI.size),J2⟩
      . simp only[if_neg e]
        rw[h2 k e]at hl
        exact(nK k hdk hl).du hn (Ne.symm e) ho
    . have key: ∀k,d<=k->gd k=true->k≠i->B k<w.heap.size:=λk hk oA e=>by
        rw[h2 k e]at oA
        obtain⟨_,_,_,_,_,_,_,_,_,_,g7,_⟩:=nK k hk oA
        exact g7.lt
      by_cases e1:k=i<;>by_cases e2:j=i
      . rw[e1,e2]
      . simp only[if_pos e1,if_neg e2]at e
        have:=key j hj Hq e2;omega
      . simp only[if_neg e1,if_pos e2]at e
        have:=key k hk oA e1;omega
      . simp only[if_neg e1,if_neg e2]at e
        exact ow k j hk hj (by rw[<-h2 k e1];exact oA) (by rw[<-h2 j e2];exact Hq) e
  by_cases pD:c<=i
  . by_cases e:i=d
    ·
      subst e
      have iS: ∀k o',c<=k->k<i->ops[k]? =some o'->dr k=true\/Mf G ops (s ops.size).env k i=true:=λk o' nb pV dx=>by
        rcases(Fv lT pV dx ho).2 with⟨_,hq⟩|hb|hb|⟨⟨t4,_,g4⟩,_⟩
        . rw[hI.wr _ ho]at hq;cases hq
        . exact .inl (pU _ hb)
        . exact .inr hb
        . have:=hI.wr _ ho
          rw[GQ g4]at this;cases this
      have hnr: ∀k o',c<=k->k<i->ops[k]? =some o'->Mf G ops (s ops.size).env k i=true->(s (k+1)).rows=(s k).rows:=λk o' nb pV dx hb=>by
        rcases QH dx ho hb with⟨t,b,t',b',z,r,r',ii,off,lY,iL,g1,g2,g3,g4,g5,g6,g7,g8,g9⟩|⟨q,g1,g2,g3,g4,_⟩|⟨q,g1,g3,_⟩|⟨t,b,r,ii,off,_,_,_,_,g1,g2,g3,g5,g7,_⟩|⟨t,b,r,ii,off,_,_,_,g1,g2,g3,g5,g7,_⟩
        . exact((hc.my k o' dx).ld t b r ii off g1 g3 (Qg hc g5 g7 (aX _) (by omega))).2.1
        . exact((hc.my k o' dx).pu q g1 (Zol hc g3 g4 (aX _) (by omega))).2.1
        . exact((hc.my k o' dx).pu q g1 (UN g3)).2.1
        . exact((hc.my k o' dx).ld t b r ii off g1 g3 (Qg hc g5 g7 (aX _) (by omega))).2.1
        . exact((hc.my k o' dx).ld t b r ii off g1 g3 (Qg hc g5 g7 (aX _) (by omega))).2.1
      have db: ∀r,cx.R r=(s i).rows.getD r none:=λr=>by
        rw[hR,Zbt hc hI.quiet HJ (by omega) (λk hk=>by
          have dx:ops[c+k]? =some ops[c+k]:=aU (by omega)
          rcases iS (c+k) _ (by omega) (by omega) dx with h|h
          . exact .inl h
          . exact .inr (hnr (c+k) _ (by omega) (by omega) dx h)),show c+(i-c)=i by omega]
      have sS: ∀t,(∀k o',k<i->dr k=false->ops[k]? =some o'->o'.dst≠some t)->(∀k o',i<=k->dr k=true->ops[k]? =some o'->o'.dst≠some t)->Rep cx w (look (s i).env t) (a.tmps.getD t undef):=λt ht he=>by
        have:=hE t (λk o' hk=>ht k o' (by omega)) he
        rwa [Zib hc hI.quiet HJ (by omega) (λk o' hk dx hd=>by
          cases hl:dr (c+k) with
          |true=>rfl
          |false=>exact(ht _ _ (by omega) hl dx hd).elim),show c+(i-c)=i by omega]at this
      refine qat (M:=M) ho hm jj db (λt ht=>sS t (λk o' hk hl dx hd=>by rw[seen k o' t hk dx hd ht]at hl;cases hl) (λk o' hk hl dx=>Da k o' t hk hl dx ht (aX _))) (hc.op i o ho) λv w' c' hM hn jY hv=> ?_
      obtain⟨d',g1,g2,g3,g4⟩:=Ql G ops _ (i+1) rfl (by omega)
      have du: ∀k o' t b r ii off row,k<i->ops[k]? =some o'->dr k=false->o'.guard=none->o'.op= .load t (.tmp b)->kU ops k b=true->look (s ops.size).env b= .ptr r ii off->(s i).rows.getD r none=some row->(ks i=[]/\(s (i+1)).rows.getD r none=some row)\/(QK ops (s ops.size).env k o'/\(s (i+1)).rows.getD r none=some (row.kill (ks i))):=by
        intro k o' t b r ii off row hk dx hl q1 q2 q3 q4 q5
        rcases(Fv lT hk dx ho).2 with⟨_,hq⟩|hb|hb|⟨⟨t4,_,g4⟩,_⟩
        rotate_right
        . have:=hI.wr _ ho
          rw[GQ g4]at this;cases this
        . rw[hI.wr _ ho]at hq;cases hq
        . rw[pU _ hb]at hl;cases hl
        . rcases QH dx ho hb with⟨t1,b1,t',b',z,r1,r',QO,Db,lY,iL,p1,p2,p3,p4,p5,p6,p7,p8,p9⟩|⟨q,p1,p2,p3,_⟩|⟨q,p1,p3,_⟩|⟨t1,b1,r1,QO,Db,args,dj,x0,l0,p1,p2,p3,p4,p5,p6,p7,p8,p9⟩|⟨t1,b1,r1,QO,Db,args,dj,td,p1,p2,p3,p4,p5,p6,p7,p8,p9⟩
          . rw[q2]at p3;cases p3
            rw[q4]at p7;cases p7
            obtain⟨f1,f2⟩:=(hc.my i o ho).st t' b' z r' lY iL p2 p4 (Qg hc p6 p8 (by omega) (by omega))
            exact .inl ⟨f1,by rw[f2 r p9];exact q5⟩
          . rw[q2]at p3;simp [lO,px,cq,q4]at p3
          . rw[q2]at p3;cases p3
          . obtain⟨f1,f2⟩:=(hc.my i o ho).ap args dj x0 l0 p2 p6 p7 (by rw[DV hc p8 (Zdi p9) (by omega) (by omega)];exact p9)
            exact .inl ⟨f1,f2 r row q5⟩
          . refine .inr ⟨⟨td,p7,p8,p9⟩,(hc.my i o ho).ap2 args dj p2 p6 r row q5 ?_⟩
            have e1:=Qg hc q3 q4 (show k<=i by omega) (by omega)
            have e2:=Qg hc q3 q4 (show k<=i+1 by omega) (by omega)
            rw[hc.env i o b ho,if_neg (Jy q3 (by omega) ho),BC,e1]at e2
            cases hb:cw r (ks i) with
            |false=>rfl
            |true=>simp [D.gp,D.kill,D.ed,hb]at e2
      have Hr: ∀k o' q,k<i->ops[k]? =some o'->dr k=false->lO (s ops.size).env o'.op=some q->ks i=[]\/Jz ops (s ops.size).env k o' q:=by
        intro k o' q hk dx hl hq
        rcases(Fv lT hk dx ho).2 with⟨_,Fu⟩|hb|hb|⟨⟨t4,_,g4⟩,_⟩
        rotate_right
        . have:=hI.wr _ ho
          rw[GQ g4]at this;cases this
        . rw[hI.wr _ ho]at Fu;cases Fu
        . rw[pU _ hb]at hl;cases hl
        . rcases QH dx ho hb with⟨t1,b1,t',b',z,r1,r',QO,Db,lY,iL,p1,p2,p3,p4,p5,p6,p7,p8⟩|⟨q,p1,p2,p3,p4,p5⟩|⟨q',p1,p3,p4⟩|⟨t1,b1,r1,QO,Db,args,dj,x0,l0,p1,p2,p3,p4,p5,_⟩|⟨t1,b1,r1,QO,Db,args,dj,td,p1,p2,p3,p4,p5,_⟩
          rotate_right
          . rw[p3]at hq;simp [lO,px,cq,p5]at hq
          rotate_right
          . rw[p3]at hq;simp [lO,px,cq,p5]at hq
          . rw[p3]at hq;simp [lO,px,cq,p7]at hq
          . rcases p5 with⟨t',b',z,r',lY,iL,p5,p6,p7⟩|⟨f,args,dj,p5,p6⟩
            . exact .inl ((hc.my i o ho).st t' b' z r' lY iL p2 p5 (Qg hc p6 p7 (by omega) (by omega))).1
            . exact .inl ((hc.my i o ho).cl f args dj p2 p5 p6)
          . rw[UN p3]at hq;cases hq
            exact .inr p4
      have Fw: ∀k,c<=k->k<i->ks k=[]:=λk nb pV=>by
        have dx:ops[k]? =some ops[k]:=aU (by omega)
        exact(VL (hc.op k _ dx) (hI.quiet k _ nb pV dx)).1
      have QP: ∀t,(∀k o,k<i+1->gd k=false->ops[k]? =some o->o.dst≠some t)->(∀k o,i+1<=k->gd k=true->ops[k]? =some o->o.dst≠some t)->Rep c' w' (look (s (i+1)).env t) ((a.put o.dst v).tmps.getD t undef):=by
        intro t ht he
        rw[hc.env i o t ho]
        refine UP hI.size (λu=>hc.dst i o u ho) (λhd=>by rw[if_pos hd];exact hv) (λhd=> ?_)
        rw[if_neg hd,BC]
        refine wX hn.cz (V7 (sS t (λk o' hk hl dx=> ?_) (λk o' hk hl dx=> ?_)))
        . exact ht k o' (by omega) (by rw[h2 k (by omega)];exact hl) dx
        . have gq:k≠i:=λe'=>by rw[e',h0]at hl;cases hl
          exact he k o' (by omega) (by rw[h2 k gq];exact hl) dx
      refine hK _ w' (i+1) d' ⟨g1,g2,λk hk=> ?_,g3,g4,tL,?_,?_,hI.fy,hI.gr,by
        have:=QM hc (c0:=c0) (w0:=w0) (w:=w') (dr:=gd) (a:=a.put o.dst v) (c:=i+1) (d:=d') g3 g2 ⟨c',B,hn.mem,jY,QP,nX.step hM hI.gr hn,λk hk oA=>(nK k (by omega) (by rw[<-h2 k (by omega)];exact oA)).du hn (by omega) ho,λk j hk hj oA Hq e=>ow k j (by omega) (by omega) (by rw[<-h2 k (by omega)];exact oA) (by rw[<-h2 j (by omega)];exact Hq) e⟩ (d'-(i+1)) (by omega)
        rwa [show i+1+(d'-(i+1))=d' by omega]at this⟩
      . by_cases e' : k=i
        . rw[e'];exact .inl h1
        . rw [h2 k e']
          cases hl:dr k with
          |true=>exact .inl rfl
          | false =>
            right
            by_cases VO:k<c
            . rcases hI.pre k VO with h|h
              . rw[hl]at h;cases h
              . rcases h with h|⟨o',q,q1,q2,q3,q4,q8⟩
                rotate_left
                . rcases q8 with q8|q8
                  rotate_left
                  . exact .inr ⟨o',q,q1,q2,q3,q4, .inr q8⟩
                  rcases Hr k o' q (by omega) q1 hl q3 with f1|f1
                  rotate_left
                  . exact .inr ⟨o',q,q1,q2,q3,q4, .inr f1⟩
                  refine .inr ⟨o',q,q1,q2,q3,q4, .inl λk' nb pV=> ?_⟩
                  by_cases J4:k'<c
                  . exact q8 k' nb J4
                  . by_cases DH:k'<i
                    . exact Fw k' (by omega) DH
                    . rw[show k'=i by omega];exact f1
                obtain⟨o',t,b,r,ii,off,row,ao,q1,q2,q3,q4,q5,q6,q7,q8⟩:=h
                have rk:r<(s c).rows.length:=by
                  by_cases hh:r<(s c).rows.length
                  . exact hh
                  . simp only[aV,aJ (show(s c).rows.length<=r by omega)]at q7;cases q7
                have iF:=JY hc.toChain hI.quiet HJ (aX c) pD (aX i) rk
                rcases du k o' t b r ii off ao (by omega) q1 hl q2 q3 q4 q5 (by rw[iF];exact q7) with⟨f1,f2⟩|⟨f1,f2⟩
                . rcases q8 with⟨e8,q8⟩|q8
                  . refine .inl ⟨o',t,b,r,ii,off,row,ao,q1,q2,q3,q4,q5,q6,f2, .inl ⟨e8,λk' nb pV=> ?_⟩⟩
                    by_cases J4:k'<c
                    . exact q8 k' nb J4
                    . by_cases DH:k'<i
                      . exact Fw k' (by omega) DH
                      . rw[show k'=i by omega];exact f1
                  . exact .inl ⟨o',t,b,r,ii,off,row,ao,q1,q2,q3,q4,q5,q6,f2, .inr ⟨q8.1,q8.2.elim λL hL=>⟨L,hL.1,λkk hk=>(hL.2 kk hk).elim λj hj=>⟨j,hj.1,by omega,hj.2.2⟩⟩⟩⟩
                . refine .inl ⟨o',t,b,r,ii,off,row,_,q1,q2,q3,q4,q5,q6,f2, .inr ⟨f1,?_⟩⟩
                  rcases q8 with⟨e8,_⟩|⟨_,L,e8,hL⟩
                  . exact⟨[ks i],by rw[e8];rfl,λkk hk=>⟨i,by omega,by omega,List.mem_singleton.1 hk⟩⟩
                  . refine⟨L++[ks i],by rw[List.foldl_append,<-e8];rfl,λkk hk=> ?_⟩
                    rcases List.mem_append.1 hk with hk|hk
                    . obtain⟨j,j1,j2,j3⟩:=hL kk hk
                      exact⟨j,j1,by omega,j3⟩
                    . exact⟨i,by omega,by omega,List.mem_singleton.1 hk⟩
            . have dx:ops[k]? =some ops[k]:=aU (by omega)
              rcases iS k _ (by omega) (by omega) dx with h|h
              . rw[hl]at h;cases h
              . have go: ∀t b r ii off,ops[k].guard=none->ops[k].op= .load t (.tmp b)->kU ops k b=true->look (s ops.size).env b= .ptr r ii off->QL ops s ks k (i+1):=by
                  intro t b r ii off p1 p3 p5 p7
                  obtain⟨row,c6⟩:=((hc.my k _ dx).ld t b r ii off p1 p3 (Qg hc p5 p7 (aX _) (by omega))).2.2.1
                  have rk:r<(s k).rows.length:=by
                    by_cases hh:r<(s k).rows.length
                    . exact hh
                    . simp only[aV,aJ (show(s k).rows.length<=r by omega)]at c6;cases c6
                  have iF:=JY hc.toChain hI.quiet HJ (show c<=k by omega) (show k<=i by omega) (aX i) rk
                  rcases du k _ t b r ii off row (by omega) dx hl p1 p3 p5 p7 (by rw[iF];exact c6) with⟨f1,f2⟩|⟨f1,f2⟩
                  rotate_left
                  . exact .inl ⟨_,t,b,r,ii,off,row,_,dx,p1,p3,p5,p7,c6,f2, .inr ⟨f1,[ks i],rfl,λkk hk=>⟨i,by omega,by omega,List.mem_singleton.1 hk⟩⟩⟩
                  refine .inl ⟨_,t,b,r,ii,off,row,row,dx,p1,p3,p5,p7,c6,f2, .inl ⟨rfl,λk' nb pV=> ?_⟩⟩
                  by_cases DH:k'<i
                  . exact Fw k' (by omega) DH
                  . rw[show k'=i by omega];exact f1
                rcases QH dx ho h with⟨t,b,t',b',z,r,r',ii,off,lY,iL,p1,p2,p3,p4,p5,p6,p7,p8,p9⟩|⟨q,p1,p2,p3,p4,p5⟩|⟨q,p1,p3,p4⟩|⟨t,b,r,ii,off,_,_,_,_,p1,p2,p3,p5,p7,_⟩|⟨t,b,r,ii,off,_,_,_,p1,p2,p3,p5,p7,_⟩
                rotate_right
                . exact go t b r ii off p1 p3 p5 p7
                rotate_left 2
                rotate_left
                . exact go t b r ii off p1 p3 p5 p7
                rotate_right
                . exact .inr ⟨_,q,dx,p1,UN p3,λa ha=>(p4.1 a ha).1, .inr p4⟩
                rotate_left
                . rcases Hr k _ q (by omega) dx hl p3 with f1|f1
                  rotate_left
                  . exact .inr ⟨_,q,dx,p1,p3,p4, .inr f1⟩
                  refine .inr ⟨_,q,dx,p1,p3,p4, .inl λk' nb pV=> ?_⟩
                  by_cases DH:k'<i
                  . exact Fw k' (by omega) DH
                  . rw[show k'=i by omega];exact f1
                exact go t b r ii off p1 p3 p5 p7
      . cases hd:o.dst<;>simp [Act.put]<;>exact hI.size
      . first|exact lU.put (hI.defers.step hm hn.fr)|exact lU.put (hI.defers.step hm hn.toW.fr)
    ·
      have HH:i<d:=by omega
      have hq:=hI.quiet i o pD HH ho
      have MO:=VK hq
      have MP: ∀t∈o.looksAt ops,Rep cx w (look (s i).env t) (a.tmps.getD t undef):=λt ht=>by
        have HI : ∀n,c+n<=d->jd ops s val dr c n t=if c+n<=i then look (s (c+n)).env t else look (s i).env t:=by
          intro n
          induction n with
          |zero=>intro _;simp only[jd,aB];rw[if_pos pD]
          | succ n ih=>
            intro hn
            obtain⟨ok,dx⟩: ∃ok,ops[c+n]? =some ok:=⟨_,aU (show c+n<ops.size by omega)⟩
            have ih:=ih (by omega)
            simp only[jd,dx,aW]
            by_cases hk:c+n<i
            . have hA:c+(n+1)<=i:=by omega
              have Sh:c+n<=i:=by omega
              rw[if_pos hA,show c+(n+1)=c+n+1 by omega,hc.toChain.Eb dx (hI.quiet _ _ (by omega) (by omega) dx) t]
              rw[if_pos Sh]at ih
              by_cases hd:ok.dst=some t
              . rw[if_pos ⟨seen _ _ t hk dx hd ht,hd⟩,if_pos hd]
              . rw[if_neg (λg=>hd g.2),if_neg hd,ih]
            . have HK: ¬(dr (c+n)=true/\ok.dst=some t):=by
                rintro⟨g1,g2⟩
                by_cases e':c+n=i
                . rw[e',h0]at g1;cases g1
                . have nY:i<c+n:=by omega
                  rcases(Fv lT nY ho dx).1 with tM|hb
                  . exact(FN tM).2.2 g2 ht
                  . have:=nW _ _ g1 hb
                    rw[h0]at this;cases this
              have hA: ¬c+(n+1)<=i:=by omega
              rw[if_neg HK,ih,if_neg hA]
              split
              . rw[show c+n=i by omega]
              . rfl
        have:=hE t (λk o' hk hl dx hd=>by rw[seen k o' t (by omega) dx hd ht]at hl;cases hl) (λk o' hk hl dx=>Da k o' t hk hl dx ht hid)
        rw[HI (d-c) (by omega),if_neg (by omega)]at this
        exact this
      have hlen: ∀k l,c<=k->k<=l->l<=d->(s k).rows.length<=(s l).rows.length:=λk l h1 h2 h3=>JX hc.toChain hI.quiet hI.dn h1 h2 h3
      have iA: ∀k l,c<=k->k<=l->l<=d-> ∀r,r<(s k).rows.length->(s l).rows.getD r none=(s k).rows.getD r none:=λk l h1 h2 h3 r hr=>JY hc.toChain hI.quiet hI.dn h1 h2 h3 hr
      have Bs: ∀n,c+n<=d-> ∀r,r<(s i).rows.length-> ∀row,kq s dr c n r=some row->(s i).rows.getD r none=some row:=by
        intro n
        induction n with
        | zero=>
          intro _ r hr row h
          simp only[kq]at h
          by_cases VP:r<(s c).rows.length
          . rw[iA c i (aX _) pD (by omega) r VP];exact h
          . simp only[aV,aJ (show(s c).rows.length<=r by omega)]at h;cases h
        | succ n ih=>
          intro hn r hr row h
          simp only[kq]at h
          split at h
          . rename_i g
            obtain⟨g1,g2,g3⟩:=g
            have VQ:c+n<i:=by
              by_cases mJ:c+n<i
              . exact mJ
              . by_cases e':c+n=i
                . rw[e',h0]at g1;cases g1
                . have:=hlen i (c+n) pD (by omega) (by omega);omega
            rw[iA (c+n+1) i (by omega) (by omega) (by omega) r g3];exact h
          . exact ih (by omega) r hr row h
      have Bt: ∀n,c+n<=d-> ∀r,(s i).rows.length<=r->r<(s (i+1)).rows.length->kq s dr c n r=none:=by
        intro n
        induction n with
        | zero=>
          intro _ r h1 h2
          have:=hlen c i (aX _) pD (by omega)
          simp only[kq,aV,aJ (show(s c).rows.length<=r by omega),Option.getD_none]
        | succ n ih=>
          intro hn r h1 h2
          simp only[kq]
          rw[if_neg]
          . exact ih (by omega) r h1 h2
          . rintro⟨g1,g2,g3⟩
            by_cases e':c+n=i
            . rw[e',h0]at g1;cases g1
            . by_cases mJ:c+n<i
              . have:=hlen (c+n+1) i (by omega) (by omega) (by omega);omega
              . have:=hlen (i+1) (c+n) (by omega) (by omega) (by omega);omega
      have oR:ma cx (s i).rows:=λr row ao g1 g2=>by
        have hr:r<(s i).rows.length:=by
          by_cases h:r<(s i).rows.length
          . exact h
          . simp only[aV,aJ (show(s i).rows.length<=r by omega)]at g2;cases g2
        rw[hR]at g1
        have:=Bs (d-c) (by omega) r hr row g1
        rw[this]at g2;exact Option.some.inj g2
      have fin: ∀v w' c',JW cx w (s i).rows (s (i+1)).rows c' w'->Rep c' w' (val i) v->K (a.put o.dst v) w':=by
        intro v w' c' hn hv
        refine hK _ w' c d ⟨hI.cd,hI.dn,λk hk=>by rw[h2 k (by omega)];exact hI.pre k hk,hI.quiet,hI.wr,tL,?_,?_,hI.fy,hI.gr,c',B,hn.mem,λr=> ?_,λt ht he=> ?_,nX.step (ks:=[]) (λk hk=>by simp [cw]at hk) hI.gr hn.toW.toK,λk hk oA=>(nK k hk (by rw[<-h2 k (by omega)];exact oA)).du hn.toW.toK (by omega) ho,λk j hk hj oA Hq e=>ow k j hk hj (by rw[<-h2 k (by omega)];exact oA) (by rw[<-h2 j (by omega)];exact Hq) e⟩
        . cases hd:o.dst<;>simp [Act.put]<;>exact hI.size
        . first|exact lU.put (hI.defers.step hm hn.fr)|exact lU.put (hI.defers.step hm hn.toW.fr)
        . rw[hn.rows,hR,VN pD h0 h1 h2 (d:=d) (λk nb pV=>hlen (i+1) k (by omega) (by omega) (by omega)) (by omega) (by omega)]
        . have hl: ∀k o',i<k->dr k=true->ops[k]? =some o'->o'.dst=some t->o.dst=some t->False:=by
            intro k o' nY hk dx MG VR
            rcases(Fv lT nY ho dx).1 with tM|hb
            . exact(FN tM).1 VR MG
            . have:=nW _ _ hk hb
              rw[h0]at this;cases this
          rw[VM ho pD h0 h1 h2 hl (by omega)]
          have hold:=wX hn.cz (hE t (λk o' hk hl dx=>ht k o' hk (by rw[h2 k (by omega)];exact hl) dx) (λk o' hk hl dx=>he k o' hk (by rw[h2 k (by omega)];exact hl) dx))
          refine UP hI.size (λu=>hc.dst i o u ho) (λhd=>by rw[if_pos hd];exact hv) (λhd=>by rw[if_neg hd];exact hold)
      have skip:val i= .dw []->(s (i+1)).rows=(s i).rows->K (a.put o.dst undef) w:=λe1 e2=>
        fin undef w cx ⟨hm,jc.refl _ _,Fr.refl _ _,λb hb=> .inl hb,λr=>by rw[e2,if_neg (by omega)],λ_ _=>⟨rfl,Iff.rfl⟩,λr g1 g2=>by rw[e2]at g2;omega⟩ (by rw[e1];exact Si _ _)
      have run:pB P G M o (cq (s i).env) (s i).rows (ks i) (val i) (s (i+1)).rows->o.nd P a w K Q:=λhX=>by
        unfold pB at hX
        rw[MO]at hX
        refine hX.2.2 cx w a hm jj oR (λr g1 g2=>by rw[hR];exact Bt (d-c) (by omega) r g1 g2) (λx hx=> ?_) K Q fin
        cases x with
        | tmp t=>
          refine MP t ?_
          unfold Oper.looksAt
          exact eS _ (List.mem_filterMap.2 ⟨.tmp t,by simpa using hx,rfl⟩)
        | const v=>
          simp only[cq,Act.eval]
          cases hv:FO v with
          |none=>trivial
          |some d=>exact MQ hv cx w
        |global g=>trivial
        |func f=>exact JZ f
      have hG:=hc.op i o ho
      unfold wpOp
      simp only[ho]
      unfold nu at hG
      cases hg:o.guard with
      | none=>
        simp only[hg]at hG
        have hw:Region.wanted o (yielded ops a.tmps)=true:=by simp [Region.wanted,hg]
        rw[if_pos hw]
        exact run hG
      | some jw=>
        obtain⟨j,want⟩:=jw
        simp only[hg]at hG
        obtain⟨g,g2,hG⟩:=hG
        have hr:=MP g (by
          unfold Oper.looksAt
          refine eX _ ?_
          simp only[hg,g2];simp)
        rcases hG with⟨b,g3,g4⟩|⟨g3,_,e1,e2⟩
        rotate_left
        . rw[g3]at hr
          rw[if_neg (by rw[Sj (o:=o) hg g2 hr];simp)]
          exact skip e1 e2
        rw[g3]at hr
        have hw:=Sk (o:=o) hg g2 hr
        by_cases e':b=want
        . rw[if_pos e']at g4
          rw[if_pos (by rw[hw];simpa using e')]
          exact run g4
        . rw[if_neg e']at g4
          rw[if_neg (by rw[hw];simpa using e')]
          exact skip g4.2.1 g4.2.2
  ·
    have VH:i<c:=by omega
    rcases hI.pre i VH with h|h
    . rw[h0]at h;cases h
    have QQ: ∀b,kU ops i b=true->(∀k,i<k->k<c->ks k=[])->ks i=[]->look (s c).env b=look (s i).env b:=by
      intro b hb q8 q9
      have: ∀k,i<=k->k<=c->look (s k).env b=look (s i).env b:=by
        intro k
        induction k with
        |zero=>intro h1 _;rw[show i=0 by omega]
        | succ k ih=>
          intro h1 h2
          by_cases e':i=k+1
          . rw[e']
          . have dx:ops[k]? =some ops[k]:=aU (by omega)
            rw[hc.env k _ b dx,if_neg (Jy hb (by omega) dx)]
            by_cases e2:k=i
            . rw[e2,q9,oD]
            . rw[q8 k (by omega) (by omega),oD];exact ih (by omega) (by omega)
      exact this c (by omega) (aX _)
    have ot: ∀b,kU ops i b=true->b∈o.looksAt ops->Rep cx w (look (s c).env b) (a.tmps.getD b undef):=λb hnb YU=>by
      have:=hE b (λk o' hk hl dx hd=>by
        by_cases VQ:k<i
        . rw[seen k o' b VQ dx hd YU]at hl;cases hl
        . exact Jy hnb (by omega) dx hd) (λk o' hk hl dx=>Da k o' b hk hl dx YU hid)
      rwa [ZT hc (λk o' hk dx hd=>(Jy hnb (by omega) dx hd).elim)]at this
    obtain ⟨q2,q8,hN,CV⟩:o.guard=none/\((∀k,i<k->k<c->ks k=[])\/ ∀t,o.dst=some t->kU ops (i+1) t=true/\sT (look (s ops.size).env t)=true)/\pF P o (cq (s c).env) (s c).rows (val i) (s c).rows/\ ∀x∈o.op.operands,Rep cx w (cq (s c).env x) (a.eval x):=by
      rcases h with⟨o',t0,b,r,ii,off,row,ao,q1,q2,q3,q4,q5,q6,q7,q8⟩|⟨o',q,q1,q2,q3,q4,q8⟩
      . rw [ho]at q1;cases q1
        have hpc:look (s c).env b= .ptr r ii off:=Qg hc q4 q5 (by omega) (by omega)
        have ZX:look (s i).env b= .ptr r ii off:=Qg hc q4 q5 (by omega) (by omega)
        have sV:=(hc.my i o ho).ld t0 b r ii off q2 q3 ZX
        have ei:cq (s c).env (.tmp b)= .ptr r ii off:=by simp [cq,hpc]
        have q9:((∀k,i<k->k<c->ks k=[])\/ ∀t,o.dst=some t->kU ops (i+1) t=true/\sT (look (s ops.size).env t)=true)/\pF P o (cq (s c).env) (s c).rows (val i) (s c).rows:=by
          rcases q8 with⟨e8,q8⟩|⟨⟨td,d1,d2,d3⟩,L,e8,hL⟩
          . subst e8
            exact⟨.inl q8,sV.2.2.2.1 (cq (s c).env) (s c).rows ei (by rw[q6,q7])⟩
          . refine⟨.inr λt ht=>by rw[d1]at ht;cases ht;exact⟨d2,QG d3⟩,sV.2.2.2.2 (cq (s c).env) (s c).rows row L ?_ (λkk hk=> ?_) ei q6 (by rw[q7,e8])⟩
            rotate_left
            . obtain⟨j,j1,j2,rfl⟩:=hL kk hk
              have h5:=DV hc d2 (QG d3) (aX _) (show i+1<=ops.size by omega)
              have h6:=hc.env i o td ho
              rw[if_pos d1,h5]at h6
              have g1:=DV hc d2 (QG d3) (show i+1<=j by omega) (show j<=ops.size by omega)
              have g2:=DV hc d2 (QG d3) (show i+1<=j+1 by omega) (show j+1<=ops.size by omega)
              have dx:ops[j]? =some ops[j]:=aU (by omega)
              rw[hc.env j _ td dx,if_neg (Jy d2 (by omega) dx),BC,g1,Zt6 d3]at g2
              rw[<-h6];exact g2
            have h5:=DV hc d2 (QG d3) (aX _) (show i+1<=ops.size by omega)
            have h6:=hc.env i o td ho
            rw[if_pos d1]at h6
            rw[<-h6,h5];exact d3
        refine⟨q2,q9.1,q9.2,λx hx=> ?_⟩
        have jJ:x= .tmp b:=by simpa [q3,Op.operands] using hx
        rw[jJ]
        refine ot b q4 ?_
        unfold Oper.looksAt
        exact eS _ (List.mem_filterMap.2 ⟨.tmp b,by rw[q3];simp [Op.operands],rfl⟩)
      . rw [ho]at q1;cases q1
        have sV:=(hc.my i o ho).pu q q2 (Zol hc q3 q4 (aX _) (by omega))
        refine⟨q2,q8.imp id λg t ht=>⟨(g.2 t ht).1,ZM (g.2 t ht).2⟩,sV.2.2 (cq (s c).env) (s c).rows (λx hx=> ?_),λy hy=> ?_⟩
        . cases x with
          | tmp b=>
            rcases q8 with q8|q8
            . exact QQ b (q4 b (ZL q3 hx)) q8 sV.1
            . obtain⟨g1,g2⟩:=q8.1 b (ZL q3 hx)
              show look (s c).env b=look (s i).env b
              rw[DV hc g1 (ZM g2) (by omega) (by omega),DV hc g1 (ZM g2) (aX _) (by omega)]
          |_=>rfl
        . cases y with
          | tmp b=>
            refine ot b (q4 b (ZL q3 hy)) ?_
            unfold Oper.looksAt
            exact eS _ (List.mem_filterMap.2 ⟨.tmp b,by simpa using hy,rfl⟩)
          | const v=>
            simp only[cq,Act.eval]
            cases hv:FO v with
            |none=>trivial
            |some d=>exact MQ hv cx w
          |global g=>trivial
          |func f=>exact JZ f
    have oR:ma cx (s c).rows:=λr' P4 jy g1 g2=>by
      have hr:r'<(s c).rows.length:=by
        by_cases h:r'<(s c).rows.length
        . exact h
        . simp only[aV,aJ (show(s c).rows.length<=r' by omega)]at g2;cases g2
      rw[hR,Zko hc hI.quiet HJ hr (by omega),g2]at g1
      exact(Option.some.inj g1).symm
    have fin: ∀v w' c',JW cx w (s c).rows (s c).rows c' w'->Rep c' w' (val i) v->K (a.put o.dst v) w':=by
      intro v w' c' hn hv
      refine hK _ w' c d ⟨VV,HJ,λk hk=> ?_,hI.quiet,hI.wr,tL,?_,?_,hI.fy,hI.gr,c',B,hn.mem,λr'=> ?_,λt ht he=> ?_,nX.step (ks:=[]) (λk hk=>by simp [cw]at hk) hI.gr hn.toW.toK,λk hk oA=>(nK k hk (by rw[<-h2 k (by omega)];exact oA)).du hn.toW.toK (by omega) ho,λk j hk hj oA Hq e=>ow k j hk hj (by rw[<-h2 k (by omega)];exact oA) (by rw[<-h2 j (by omega)];exact Hq) e⟩
      . by_cases e':k=i
        . rw[e'];exact .inl h1
        . rw[h2 k e'];exact hI.pre k hk
      . cases hd:o.dst<;>simp [Act.put]<;>exact hI.size
      . first|exact lU.put (hI.defers.step hm hn.fr)|exact lU.put (hI.defers.step hm hn.toW.fr)
      . rw[hn.rows,hR,if_neg (by omega),Sg (λk hk=>h2 _ (by omega))]
      . rw [Sf (λk hk=>h2 _ (by omega))]
        refine UP hI.size (λu=>hc.dst i o u ho) (λhd=> ?_) (λhd=> ?_)
        ·
          have mZ: ∀k o',i<k->ops[k]? =some o'->o'.dst=some t->dr k=false:=λk o' hk dx pj=>by
            cases hl:dr k with
            |false=>rfl
            | true=>
              rcases(Fv lT hk ho dx).1 with tM|hb
              . exact((FN tM).1 hd pj).elim
              . have:=nW _ _ hl hb
                rw[h0]at this;cases this
          have ZY: ∀k o',i<k->k<c->ops[k]? =some o'->o'.dst≠some t:=λk o' nb pV dx pj=>
            ht k o' pV (by rw[h2 k (by omega)];exact mZ k o' nb dx pj) dx pj
          rw[ZT hc (λk o' hk dx pj=>mZ _ o' (by omega) dx pj)]
          have: ∀k,i<k->k<=c->look (s k).env t=val i:=by
            rcases q8 with q8|q8
            rotate_left
            . intro k nb pV
              obtain⟨g1,g2⟩:=q8 t hd
              have:=hc.env i o t ho
              rw[if_pos hd]at this
              rw[<-this,DV hc g1 g2 (by omega) (by omega),DV hc g1 g2 (aX _) (by omega)]
            intro k
            induction k with
            |zero=>intro h;omega
            | succ k ih=>
              intro nb pV
              have dx:ops[k]? =some ops[k]:=aU (by omega)
              by_cases e':k=i
              . subst e'
                rw[ho]at dx
                rw[hc.env k o t ho,if_pos hd]
              . rw[hc.env k _ t dx,if_neg (ZY k _ (by omega) (by omega) dx),q8 k (by omega) (by omega),oD]
                exact ih (by omega) (by omega)
          rw[this c VH (aX _)]
          exact hv
        . refine wX hn.cz (hE t (λk o' hk hl dx pj=> ?_) (λk o' hk hl dx=>he k o' hk (by rw[h2 k (by omega)];exact hl) dx))
          by_cases e':k=i
          . subst e'
            rw[ho]at dx;cases dx
            exact hd pj
          . exact ht k o' hk (by rw[h2 k e'];exact hl) dx pj
    unfold wpOp
    simp only[ho]
    have hw:Region.wanted o (yielded ops a.tmps)=true:=by simp [Region.wanted,q2]
    rw[if_pos hw]
    exact hN.2 cx w a hm jj oR (λr' g1 g2=>by omega) CV K Q fin
theorem Zii{c d:Nat}(hI:Inv2 P G N M ops s ks val c0 w0 dr a w c d)(iS:∀i,i<ops.size->dr i=true):∃cx,fi N M c0 w0 cx w (s ops.size) a:=by
 obtain⟨cx,B,hm,hR,hE,nX,nK,ow⟩:=hI.ctx
 have hd:d=ops.size:=by
  by_cases h:d<ops.size
  ·obtain⟨o',t,_,_,g1,_,g3,_⟩:=nK d (aX _) (iS d h)
   have:=hI.wr _ g1
   unfold kX at this
   rw[g3]at this;cases this
  ·have:=hI.dn;omega
 subst hd
 have VV:=hI.cd
 have hl:∀k,k<ops.size-c->dr (c+k)=true:=λk hk=>iS _ (by omega)
 refine⟨cx,hm,λr=>?_,λt=>?_,hI.size,hI.defers,hI.fy,hI.gr,nX⟩
 ·rw[hR,Sc hc.toChain hI.quiet hI.dn (by omega) hl,show c+(ops.size-c)=ops.size by omega]
 ·have:=hE t (λk o hk h0 dx=>by rw[iS k (Array.getElem?_eq_some_iff.1 dx).1]at h0;cases h0) (λk o hk _ dx=>by have:=(Array.getElem?_eq_some_iff.1 dx).1;omega)
  rw[Sb hc.toChain hI.quiet hI.dn (by omega) hl]at this
  rwa [show c+(ops.size-c)=ops.size by omega]at this
theorem yx(hQ:∀c w a,fi N M c0 w0 c w (s ops.size) a->Q .normal a w):∀(fuel:Nat) (ar:Array Bool) (a:Act) (w:World) (c d:Nat),ar.size=ops.size->mK (λi=>ar.getD i false) ops.size<=fuel->
 Inv2 P G N M ops s ks val c0 w0 (λi=>ar.getD i false) a w c d->HL P .any ops Q fuel ar a w:=by
 intro fuel
 have AK:∀(ar:Array Bool) (i:Nat),ar.size=ops.size->(i∈Region.ready .any ops ar↔ ∃o,ops[i]?=some o/\ar.getD i false=false/\∀e∈o.after,Region.binds .any e=true->ar.getD e.on false=true):=by
  intro ar i fu
  unfold Region.ready
  rw[gM,gN]
  constructor
  ·rintro⟨h1,h2⟩
   have ho:ops[i]?=some ops[i]:=aU h1
   simp only[ho,bA,aR,aE,bB]at h2
   refine⟨_,ho,?_,λe he hb=>?_⟩
   ·have hl:i<ar.size:=by omega
    have:=h2.1
    simpa[aY,hl]using this
   ·have:=Array.all_eq_true'.1 h2.2 e he
    simpa[hb]using this
  ·rintro⟨o,ho,h1,h2⟩
   have bd:=(Array.getElem?_eq_some_iff.1 ho).1
   refine⟨bd,?_⟩
   simp only[ho,bA,aR,aE,bB]
   have hl:i<ar.size:=by omega
   refine⟨by simpa[aY,hl]using h1,Array.all_eq_true'.2 λe he=>?_⟩
   cases hb:Region.binds .any e with
   |false=>rfl
   |true=>simpa[hb]using h2 e he hb
 have kb:∀(ar:Array Bool),ar.size=ops.size->Region.ready .any ops ar=[]->∀i,i<ops.size->ar.getD i false=true:=by
  intro ar fu he i
  induction i using Nat.strongRecOn with
  |_ i ih=>
   intro hi
   cases hl:ar.getD i false with
   |true=>rfl
   |false=>
    exfalso
    have ho:ops[i]?=some ops[i]:=aU hi
    have:i∈Region.ready .any ops ar:=(AK ar i fu).2 ⟨_,ho,hl,λe wV hb=>by
     have:=Zk7 lT ho e wV hb
     exact ih e.on this (by omega)⟩
    rw[he]at this;cases this
 induction fuel with
 |zero=>
  intro ar a w c d fu Bu hI
  have iS:=VT (dr:=λi=>ar.getD i false) (Nat.le_zero.1 Bu)
  refine⟨?_,?_⟩
  ·rw[List.eq_nil_iff_forall_not_mem]
   intro i hi
   obtain⟨o,ho,h1,_⟩:=(AK ar i fu).1 hi
   have:=iS i (Array.getElem?_eq_some_iff.1 ho).1
   rw[h1]at this;cases this
  ·obtain⟨cx,hs⟩:=Zii hc lT hI iS
   exact hQ cx w a hs
 |succ fuel ih=>
  intro ar a w c d fu Bu hI
  refine⟨λhe=>?_,λi hi=>?_⟩
  ·obtain⟨cx,hs⟩:=Zii hc lT hI (kb ar fu he)
   exact hQ cx w a hs
  ·obtain⟨o,ho,h1,h2⟩:=(AK ar i fu).1 hi
   have bd:=(Array.getElem?_eq_some_iff.1 ho).1
   have rY:(ar.setIfInBounds i true).getD i false=true:=by
    have hl:i<ar.size:=by omega
    simp[aY,hl]
   have r3:∀k,k≠i->(ar.setIfInBounds i true).getD k false=ar.getD k false:=λk hk=>by
    rw[aQ,aZ (Ne.symm hk),<-aQ]
   refine zx hc lT (gd:=λk=>(ar.setIfInBounds i true).getD k false) hI ho h1 rY r3 h2 λa' w' c' d' VW=>?_
   refine ih _ a' w' c' d' (by simpa using fu) ?_ VW
   have:=VU (dr:=λk=>ar.getD k false) (gd:=λk=>(ar.setIfInBounds i true).getD k false) h1 rY r3 bd
   omega
end
theorem AK{ar:Array Bool}(fu:ar.size=ops.size):i∈Region.ready .any ops ar↔ ∃o,ops[i]?=some o/\ar.getD i false=false/\∀e∈o.after,Region.binds .any e=true->ar.getD e.on false=true:=by
 unfold Region.ready
 rw[gM,gN]
 constructor
 ·rintro⟨h1,h2⟩
  have ho:ops[i]?=some ops[i]:=aU h1
  simp only[ho,bA,aR,aE,bB]at h2
  refine⟨_,ho,?_,λe he hb=>?_⟩
  ·have hl:i<ar.size:=by omega
   have:=h2.1
   simpa[aY,hl]using this
  ·have:=Array.all_eq_true'.1 h2.2 e he
   simpa[hb]using this
 ·rintro⟨o,ho,h1,h2⟩
  have bd:=(Array.getElem?_eq_some_iff.1 ho).1
  refine⟨bd,?_⟩
  simp only[ho,bA,aR,aE,bB]
  have hl:i<ar.size:=by omega
  refine⟨by simpa[aY,hl]using h1,Array.all_eq_true'.2 λe he=>?_⟩
  cases hb:Region.binds .any e with
  |false=>rfl
  |true=>simpa[hb]using h2 e he hb
theorem qy{r:Nat}:∀{l:List Nat} {k:Nat},r∉l->pos r l k=k+l.length
 |[],k,_=>rfl
 |x::l,k,h=>by
  simp only[List.mem_cons,not_or]at h
  simp only[pos]
  cases hb:Nat.beq x r with
  |true=>exact(h.1 (bE hb).symm).elim
  |false=>show pos r l (k+1)=_;rw[qy h.2];simp;omega
section
variable {p:List Nat} {ops:Array Oper} (hp:Zq p ops.size=true)
include hp
theorem UQ:p.length=ops.size/\(∀i,i<ops.size->i∈p)/\(∀i∈p,i<ops.size)/\p.Nodup:=by
 unfold Zq at hp
 simp only[aE]at hp
 obtain⟨h1,h2,h3,h4⟩:=hp
 exact⟨bE h1,λi hi=>nN.1 (List.all_eq_true.1 h2 i (List.mem_range.2 hi)),λi hi=>lE (List.all_eq_true.1 h3 i hi),LX.1 h4⟩
theorem Hs(hi:i<ops.size):pos i p 0<ops.size/\p[pos i p 0]?=some i:=by
 obtain⟨h1,h2,h3,h4⟩:=UQ hp
 have:=Be (h2 i hi)
 exact⟨by have:=(List.getElem?_eq_some_iff.1 this).1;omega,this⟩
theorem Zhb(h:pos i p 0<ops.size):i<ops.size:=by
 obtain⟨h1,h2,h3,h4⟩:=UQ hp
 by_cases hm:i∈p
 ·exact h3 i hm
 ·rw[qy hm]at h;omega
theorem ZZ:(nj p ops).size=ops.size:=by
 obtain⟨h1,_⟩:=UQ hp
 simp[nj,h1]
theorem UR(hk:p[k]?=some i)(ho:ops[i]?=some o):(nj p ops)[k]?=some (Mh p o):=by
 have:ops.getD i default=o:=by
  have bd:=(Array.getElem?_eq_some_iff.1 ho).1
  have:=(Array.getElem?_eq_some_iff.1 ho).2
  simp[aY,bd,this]
 simp[nj,hk,ho]
theorem Zhd(tmps:Array Value)(j:Nat):yielded (nj p ops) tmps (pos j p 0)=yielded ops tmps j:=by
 by_cases hj:j<ops.size
 ·have ho:ops[j]?=some ops[j]:=aU hj
  have h1:=UR hp (Hs hp hj).2 ho
  simp only[yielded,h1,ho,aW]
  rfl
 ·have h1:ops[j]?=none:=gO (by omega)
  have h2:(nj p ops)[pos j p 0]?=none:=by
   refine gO ?_
   rw[ZZ hp]
   by_cases h:pos j p 0<ops.size
   ·exact(hj (Zhb hp h)).elim
   ·omega
  simp only[yielded,h1,h2,Option.bind_none]
theorem Znp(tmps:Array Value):Region.wanted (Mh p o) (yielded (nj p ops) tmps)=Region.wanted o (yielded ops tmps):=by
 unfold Region.wanted Mh
 cases hg:o.guard with
 |none=>rfl
 |some jw=>obtain⟨j,w⟩:=jw;simp only[Zhd hp]
theorem xy{K K':Act->World->Prop}(hi:i<ops.size)(hK:∀a w,K' a w->K a w)(h:wpOp P (nj p ops) Q (pos i p 0) K' a w):wpOp P ops Q i K a w:=by
 have ho:ops[i]?=some ops[i]:=aU hi
 have h1:=UR hp (Hs hp hi).2 ho
 unfold wpOp at h⊢
 simp only[ho]
 simp only[h1,Znp hp]at h
 split at h
 ·rename_i hw
  rw[if_pos hw]
  exact V6 (Q:=Q) hK h
 ·rename_i hw
  rw[if_neg hw]
  exact hK _ _ h
theorem Zre:∀(fuel:Nat) (ar ff:Array Bool) (a:Act) (w:World),ar.size=ops.size->ff.size=ops.size->(∀i,i<ops.size->ff.getD (pos i p 0) false=ar.getD i false)->
 HL P .any (nj p ops) Q fuel ff a w->HL P .any ops Q fuel ar a w:=by
 have fu:=ZZ hp
 obtain⟨f1,f2,f3,f4⟩:=UQ hp
 have up:∀(ar ff:Array Bool) (i:Nat),ar.size=ops.size->ff.size=ops.size->(∀i,i<ops.size->ff.getD (pos i p 0) false=ar.getD i false)->i∈Region.ready .any ops ar->i<ops.size/\pos i p 0∈Region.ready .any (nj p ops) ff:=by
  intro ar ff i h1 h2 h3 hi
  obtain⟨o,ho,g1,g2⟩:=(AK h1).1 hi
  have bd:=(Array.getElem?_eq_some_iff.1 ho).1
  refine⟨bd,(AK (by rw[h2,fu])).2 ⟨_,UR hp (Hs hp bd).2 ho,by rw[h3 i bd];exact g1,λe he hb=>?_⟩⟩
  simp only[Mh,gP]at he
  obtain⟨e',wV,rfl⟩:=he
  have:=g2 e' wV hb
  have J2:e'.on<ops.size:=by
   by_cases h:e'.on<ops.size
   ·exact h
   ·rw[aY,dif_neg (by omega)]at this;cases this
  show ff.getD (pos e'.on p 0) false=true
  rw[h3 _ J2];exact this
 have down:∀(ar ff:Array Bool) (k:Nat),ar.size=ops.size->ff.size=ops.size->(∀i,i<ops.size->ff.getD (pos i p 0) false=ar.getD i false)->k∈Region.ready .any (nj p ops) ff->∃i,i∈Region.ready .any ops ar:=by
  intro ar ff k h1 h2 h3 hk
  obtain⟨o',jo,g1,g2⟩:=(AK (by rw[h2,fu])).1 hk
  have bd:=(Array.getElem?_eq_some_iff.1 jo).1
  rw[fu]at bd
  have Bf:p[k]?=some p[k]:=List.getElem?_eq_getElem (by omega)
  have hi:=f3 _ (fL Bf)
  have ho:ops[p[k]]?=some ops[p[k]]:=aU hi
  have QR:pos p[k] p 0=k:=by
   have:=(Hs hp hi).2
   exact(List.getElem?_inj (by have:=(Hs hp hi).1;omega) f4).1 (this.trans Bf.symm)
  have h4:=UR hp Bf ho
  rw[jo]at h4;cases h4
  refine⟨p[k],(AK h1).2 ⟨_,ho,by rw[<-h3 _ hi,QR];exact g1,λe he hb=>?_⟩⟩
  have:=g2 (Dc p e) (by simp only[Mh,gP];exact⟨e,he,rfl⟩) hb
  have this:ff.getD (pos e.on p 0) false=true:=this
  have J2:pos e.on p 0<ops.size:=by
   by_cases h:pos e.on p 0<ops.size
   ·exact h
   ·rw[aY,dif_neg (by omega)]at this;cases this
  rw[<-h3 _ (Zhb hp J2)];exact this
 intro fuel
 induction fuel with
 |zero=>
  intro ar ff a w h1 h2 h3 h
  refine⟨?_,h.2⟩
  cases hr:Region.ready .any ops ar with
  |nil=>rfl
  |cons i l=>
   have:=(up ar ff i h1 h2 h3 (by rw[hr];simp)).2
   rw[h.1]at this;cases this
 |succ fuel ih=>
  intro ar ff a w h1 h2 h3 h
  refine⟨λhe=>h.1 ?_,λi hi=>?_⟩
  ·cases hr:Region.ready .any (nj p ops) ff with
   |nil=>rfl
   |cons k l=>
    obtain⟨i,hi⟩:=down ar ff k h1 h2 h3 (by rw[hr];simp)
    rw[he]at hi;cases hi
  ·obtain⟨bd,iF⟩:=up ar ff i h1 h2 h3 hi
   refine xy hp bd (λa' w' hk=>ih _ _ a' w' (by simpa using h1) (by simpa using h2) (λk hk=>?_) hk) (h.2 _ iF)
   have ZX:=(Hs hp bd)
   have Bf:=(Hs hp hk)
   have gs:∀(A:Array Bool) (x y:Nat),x<A.size->(A.setIfInBounds x true).getD y false=if x=y then true else A.getD y false:=λA x y hx=>by
    simp only[aQ,Array.getElem?_setIfInBounds]
    split
    ·rename_i e;subst e;simp[hx]
    ·rfl
   rw[gs _ _ _ (by omega),gs _ _ _ (by omega)]
   by_cases e:i=k
   ·subst e;simp
   ·have gq:pos i p 0≠pos k p 0:=λe'=>by
     have:=Bf.2
     rw[<-e',ZX.2]at this
     exact e (Option.some.inj this)
    rw[if_neg e,if_neg gq];exact h3 k hk
end
theorem Zlk{ro:Option Nat}(hm:P.follows .mixedOrders=true){N M id:Nat}{Q:Ex->St->Prop}(hT:ji P T)(hG:jz P G){p:List Nat}(hp:Zq p ops.size=true)(h:lR T G N M (nj p ops) (nj p ops).toList st λst=>cu (QJ G (nj p ops) st.env) (Q .normal st)):tN ro P N M (.region id ops true) st Q:=by
 intro c0 w0 c w a hs
 have hs:=hs.drew
 refine Qwq hm ?_
 refine Zre hp ops.size _ (gE ops.size false) a _ (by simp) (by simp) (λi hi=>by simp[aY,(Hs hp hi).1,hi]) ?_
 obtain⟨s,ks,val,h1,h2,h3,h4,h5,h6⟩:=Zhe hT hG (nj p ops).toList 0 st (by simp) h
 have hc:UO P G N M (nj p ops) s ks val:=⟨⟨λi o ho=>h3 i o (bC _) ho,λi o t ho=>h4 i o t (bC _) ho,λi o t ho=>h5 i o t (bC _) ho⟩,λi o ho=>h6 i o (bC _) ho⟩
 have fu:s (0+(nj p ops).toList.length)=s (nj p ops).size:=by simp
 rw[fu]at h2
 obtain⟨hd,h2⟩:=dd.1 h2
 have kT:=ZZ hp
 obtain⟨d,g1,g2,g3,g4⟩:=Ql G (nj p ops) _ 0 rfl (bC _)
 have hz:∀i,(gE (nj p ops).size false).getD i false=false:=λi=>by
  by_cases h:i<(nj p ops).size
  ·simp[aY,h]
  ·simp[aY,h]
 rw[<-kT]
 refine yx hc hd (Q:=λe a' w'=>∃ex jq c',mL e=some ex/\Q ex jq/\fi N M c0 w0 c' w' jq a') (λc w a iV=>⟨_,_,c,rfl,h2,iV⟩) (nj p ops).size _ a _ 0 d (by simp) (VS _ _)
  ⟨g1,g2,λi hi=>by omega,g3,g4,λj hj=>by simp[hz]at hj,hs.size,hs.defers,hs.fy,hs.gr,c,λ_=>0,hs.mem,λr=>?_,λt _ _=>?_,hs.reach,λi _ hl=>by simp[hz]at hl,λi j _ _ hl=>by simp[hz]at hl⟩
 ·rw[Se (λi _=>hz _),h1];exact hs.rows r
 ·rw[Sd (λi _=>hz _),h1];exact hs.env t
theorem zy(hm:P.follows .mixedOrders=true):py P:=by
 intro ro T G N M id ops st Q hT hG h
 unfold uK at h
 split at h
 ·rename_i hd
  exact xa hm ro T G N M id ops st Q hT hG hd h
 ·obtain⟨h1,h2⟩:=dd.1 h
  exact Zlk hm hT hG h1 h2
