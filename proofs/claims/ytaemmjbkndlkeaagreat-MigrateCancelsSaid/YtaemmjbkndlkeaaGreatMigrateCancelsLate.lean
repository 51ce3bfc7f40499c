import Derived.Test.YtaemmjbkndlkeaaGreatMigrateCancelsDraw
open List renaming mem_cons_self->eU,getD->aV,getElem?_eq_none->aJ,mem_of_getElem?->fL,mem_append_left->eS,mem_append_right->eX,mem_filter->gM,mem_range->gN
open Array renaming mem_toList_iff->gL,toArray_toList->bW,getElem?_eq_getElem->aU,getElem?_setIfInBounds_ne->aZ,getD->aY,getD_eq_getD_getElem?->aQ,getElem?_eq_none->gO,mem_map->gP,replicate->gE
open Option renaming bind_some->aW,map_some->bA,getD_some->aR
open Bool renaming or_eq_true->aT,false_eq_true->aA,not_eq_true'->bB
open Nat renaming lt_of_lt_of_le->bM,le_refl->aX,add_zero->aB,zero_le->bC
set_option linter.all false
namespace Go.GD
open Go
set_option linter.unusedSectionVars false
variable {G:List bc}{K:D->Rows->Prop}{M N b i j k off r u:Nat}{P:Program}{Q:Exit->Act->World->Prop}{R:Rows}{T:iG}{a:Act}{arr:Array Value}{c c' c0:Ctx}{d:D}{ev:Operand->D}{dz:Nat->Bool}{o x y:Oper}{op:Op}{ops:Array Oper}{pl:Bool}{q:List Nat}{row:Row}{s:Nat->St}{st:St}{t:TypeId}{ti:TI}{ty:tI}{v:Value}{val:Nat->D}{w w' w0:World}
theorem Zbz{K:D->Prop}(h:uP pl ty d K):∃d',K d'/\∀K2:D->Prop,K2 d'->uP pl ty d K2:=by
 cases ty<;>simp only[uP]at h⊢
 ·exact⟨_,(dm.1 h).2,λK2 h2=>dm.2 ⟨(dm.1 h).1,h2⟩⟩
 ·exact⟨_,(dm.1 h).2,λK2 h2=>dm.2 ⟨(dm.1 h).1,h2⟩⟩
 ·exact⟨_,(dm.1 h).2,λK2 h2=>dm.2 ⟨(dm.1 h).1,h2⟩⟩
 ·cases pl
  ·simp only[D.dd]at h⊢
   exact⟨_,(dm.1 h).2,λK2 h2=>dm.2 ⟨(dm.1 h).1,h2⟩⟩
  ·exact⟨_,(dm.1 h).2,λK2 h2=>dm.2 ⟨(dm.1 h).1,h2⟩⟩
 ·cases pl
  ·simp only[D.dd]at h⊢
   exact⟨_,(dm.1 h).2,λK2 h2=>dm.2 ⟨(dm.1 h).1,h2⟩⟩
  ·cases d<;>first|exact h.elim|exact⟨_,h,λK2 h2=>h2⟩
theorem Qw{pl:Bool}{e:List D}:∀{dv:List tI} {off:Nat} {K:List D->Prop},Jy pl e dv off K->∃ds,K ds/\∀K2:List D->Prop,K2 ds->Jy pl e dv off K2
 |[],off,K,h=>⟨[],h,λK2 h2=>h2⟩
 |t::ts,off,K,h=>by
  simp only[Jy]at h⊢
  obtain⟨d,hd,h1⟩:=Zbz h
  obtain⟨ds,Eh,h2⟩:=Qw hd
  exact⟨_,Eh,λK2 hk=>h1 _ (h2 _ hk)⟩
theorem Vj{e:List D}{K:D->Prop}(h:uQ pl ti e off K):∃d,K d/\∀K2:D->Prop,K2 d->uQ pl ti e off K2:=by
 unfold uQ at h
 cases hg:ti.kind.isAgg with
 |true=>
  simp only[hg]at h
  obtain⟨ds,h1,h2⟩:=Qw h
  exact⟨_,h1,λK2 hk=>by unfold uQ;simp only[hg];exact h2 _ hk⟩
 |false=>
  simp only[hg]at h
  split at h
  ·rename_i y hy
   obtain⟨d,h1,h2⟩:=Zbz h
   exact⟨_,h1,λK2 hk=>by unfold uQ;simp only[hg,hy];exact h2 _ hk⟩
  ·exact h.elim
theorem Zi(h:wS T t (.ptr r i off) R K):
 ∃d,K d R/\(∃row,R.getD r none=some row)/\∀R2:Rows,R2.getD r none=R.getD r none->wS T t (.ptr r i off) R2 λd' R'=>d'=d/\R'=R2:=by
 unfold wS at h
 cases hT:T.get t with
 |none=>simp only[hT]at h
 |some ti=>
  simp only[hT]at h
  cases hr:R.getD r none with
  |none=>simp only[hr]at h
  |some row=>
   obtain⟨box,ty,sz,es⟩:=row
   simp only[hr,dm]at h
   obtain⟨h0,h⟩:=h
   obtain⟨d,h1,h2⟩:=Vj h
   refine⟨d,h1,?_,λR2 uM=>?_⟩
   ·exact⟨_,rfl⟩
   ·unfold wS
    simp only[hT,uM,dm]
    exact⟨h0,h2 _ (by simp)⟩
theorem Zr6(h:pN d=true)(ks:List Nat):d.gy ks=d.ez ks:=by cases d<;>first|rfl|cases h
theorem Zr9{d d':D}{ks:List Nat}(h:uP pl ty d λx=>x=d')(hd:d'.ez ks=d'):d.ez ks=d:=by
 cases ty<;>simp only[uP]at h
 ·cases d<;>first|rfl|(simp[D.isInt,dm]at h;done)
 ·cases d<;>first|rfl|(simp[D.isBool,dm]at h;done)
 ·cases d<;>first|rfl|(simp[D.isStr,dm]at h;done)
 ·cases pl
  ·simp only[D.dd,dm]at h
   rw[h.2];exact hd
  ·simp only[dm]at h
   cases d<;>first|rfl|(simp[D.Ft,dm]at h;done)
 ·cases pl
  ·simp only[D.dd,dm]at h
   rw[h.2];exact hd
  ·cases d<;>first|exact h.elim|rfl
theorem Zbh{ks:List Nat}:∀{l:List D} {j:Nat},(D.kF ks l).getD j .dead=(l.getD j .dead).ez ks
 |[],_=>rfl
 |_::_,0=>rfl
 |_::l,j+1=>Zbh (l:=l) (j:=j)
theorem Zo6(ks:List Nat)(row:Row)(i off:Nat):((row.kill ks).es.get i).getD off .dead=(row.es.get i).getD off .dead\/((row.kill ks).es.get i).getD off .dead=((row.es.get i).getD off .dead).ez ks:=by
 unfold Row.kill
 split
 ·rename_i ty sz e
  cases i with
  |zero=>exact .inr Zbh
  |succ i=>exact .inl rfl
 ·exact .inl rfl
theorem Zmm{v:D}{ks:List Nat}(h:uQ pl ti (row.es.get i) off λx=>x=v)(hv:pN v=true)(hk:v.ez ks=v):uQ pl ti ((row.kill ks).es.get i) off λx=>x=v:=by
 unfold uQ at h⊢
 cases hg:ti.kind.isAgg with
 |true=>
  simp only[hg]at h
  obtain⟨ds,h1,_⟩:=Qw h
  rw[<-h1]at hv;cases hv
 |false=>
  simp only[hg]at h⊢
  split at h
  ·rename_i y hy
   have e:((row.kill ks).es.get i).getD off .dead=(row.es.get i).getD off .dead:=by
    rcases Zo6 ks row i off with e|e
    ·exact e
    ·rw[e];exact Zr9 h hk
   rw[e];exact h
  ·exact h.elim
theorem Z29{pl:Bool}{ti:TI}{i off:Nat}{v:D}(hv:pN v=true):∀{L:List (List Nat)} {row:Row},(∀kk∈L,v.ez kk=v)->(uQ pl ti (row.es.get i) off λx=>x=v)->uQ pl ti ((L.foldl (λr k=>Row.kill k r) row).es.get i) off λx=>x=v
 |[],_,_,h=>h
 |k::L,row,hL,h=>Z29 hv (L:=L) (row:=row.kill k) (λkk hk=>hL kk (List.mem_cons_of_mem _ hk)) (Zmm h hv (hL k (eU ..)))
theorem Z7m:∀(L:List (List Nat)) (row:Row),(L.foldl (λr k=>Row.kill k r) row).box=row.box/\(L.foldl (λr k=>Row.kill k r) row).sz=row.sz
 |[],_=>⟨rfl,rfl⟩
 |k::L,row=>by
  obtain⟨k1,k2,k3,k4⟩:=wo k row
  obtain⟨h1,h2⟩:=Z7m L (row.kill k)
  exact⟨h1.trans k1,h2.trans k3⟩
theorem Zru{R R2:Rows}{v:D}{L:List (List Nat)}(h:wS T t (.ptr r i off) R λd' R'=>d'=v/\R'=R)(hv:pN v=true)(hL:∀kk∈L,v.ez kk=v)(hr:R.getD r none=some row)(uM:R2.getD r none=some (L.foldl (λr k=>Row.kill k r) row)):
 wS T t (.ptr r i off) R2 λd' R'=>d'=v/\R'=R2:=by
 obtain⟨s1,s2⟩:=Z7m L row
 unfold wS at h⊢
 cases hT:T.get t with
 |none=>simp only[hT]at h
 |some ti=>
  simp only[hT,hr]at h
  simp only[hT,uM]
  obtain⟨box,ty,sz,es⟩:=row
  simp only at h s1 s2
  generalize dc:L.foldl (λr k=>Row.kill k r) (⟨box,ty,sz,es⟩:Row)=jE at s1 s2⊢
  obtain⟨Ra,ty2,sz2,es2⟩:=jE
  simp only at s1 s2⊢
  subst s1;subst s2
  simp only[dm]at h⊢
  refine⟨h.1,?_⟩
  have hx:uQ (!Ra) ti (es.get i) off λx=>x=v:=by
   obtain⟨d,h1,h2⟩:=Vj h.2
   exact h2 _ h1.1
  have:=Z29 (L:=L) (row:=⟨Ra,ty,sz2,es⟩) hv hL hx
  rw[dc]at this
  obtain⟨d,h1,h2⟩:=Vj this
  exact h2 _ ⟨h1,by first|trivial|rfl⟩
theorem Zfe(h:Hp T t (.ptr r i off) d R K):
 ∃R',K .dead R'/\(∀r',r'≠r->R'.getD r' none=R.getD r' none)/\Hp T t (.ptr r i off) d R λd' R2=>d'=.dead/\R2=R':=by
 unfold Hp at h
 cases hT:T.get t with
 |none=>simp only[hT]at h
 |some ti=>
  simp only[hT]at h
  cases hr:R.getD r none with
  |none=>simp only[hr]at h
  |some row=>
   obtain⟨box,ty,sz,es⟩:=row
   simp only[hr,dm]at h
   obtain⟨h0,h⟩:=h
   have uR:∀(x:Option Row) (r':Nat),r'≠r->(R.set r x).getD r' none=R.getD r' none:=λx r' h=>by
    simp only[aV,List.getElem?_set_ne (Ne.symm h)]
   cases box with
   |true=>
    simp only[D.fk,nA]at h
    refine⟨_,h,uR _,?_⟩
    unfold Hp
    simp only[hT,hr,dm,D.fk,nA]
    exact⟨h0,by simp⟩
   |false=>
    simp only[nA]at h
    refine⟨_,h.2,uR _,?_⟩
    unfold Hp
    simp only[hT,hr,dm,nA]
    exact⟨h0,h.1,by simp⟩
structure Vk(P:Program)(o:Oper)(row:Row)(arr:Array Value):Prop where
 box:row.box=true
 sz:0<row.sz
 cells:∃e,row.es=.gen [e]/\e.length=row.sz/\arr.size=row.sz/\∀(c:Ctx) (w:World),kN c w e arr 0
 run:∀(ev:Operand->Value) (w:World),(execOp ev o).run P w=.ok (.value (.pointer (some ⟨w.heap.size,0,none⟩))) (w.alloc (.cells arr row.ty))
theorem Zri(hT:jm P T)(ho:o.op=.alloc t){k:TK}{sz b:Nat}{cs:List tI}{ds:List D}{e:Bool}(ht:T.get t=some ⟨k,sz,b,cs,some ds,e⟩)(h0:0<sz)(hl:ds.length=sz):∃arr,Vk P o ⟨true,t,sz,.gen [ds]⟩ arr:=by
 obtain⟨i,u,hi,hu,hz,_,_,_,hzero⟩:=G7 hT ht
 have hb:∀(c:Ctx) (w:World),U9 c w ⟨true,t,sz,.gen [ds]⟩ u.cells:=λc w=>ZS h0 hl (JC hz c w)
 have gd:u.cells.size=sz:=by have:=Mk hz;simp at this;omega
 refine⟨u.cells,⟨rfl,h0,⟨ds,rfl,hl,gd,λc w=>?_⟩,λev w=>?_⟩⟩
 ·have:=(hb c w).2
  simp only[if_true]at this
  obtain⟨e',h1,_,_,h4⟩:=this
  cases h1;exact h4
 ·simp only[execOp,ho,Instr.alloc,Sem.run_bind,hzero,Result.andThen_ok,ZT,Sem.run_pure]
structure JR(P:Program)(G:List bc)(o:Oper)(env:List (Nat×D))(R:Rows)(ks:List Nat)(val:D)(R':Rows):Prop where
 ld:∀t a r ii off,o.guard=none->o.op=.load t (.tmp a)->look env a=.ptr r ii off->ks=[]/\R'=R/\(∃row,R.getD r none=some row)/\(∀(ev:Operand->D) (R2:Rows),ev (.tmp a)=.ptr r ii off->R2.getD r none=R.getD r none->pW P o ev R2 val R2)/\∀(ev:Operand->D) (R2:Rows) row (L:List (List Nat)),pN val=true->(∀kk∈L,val.ez kk=val)->ev (.tmp a)=.ptr r ii off->R.getD r none=some row->R2.getD r none=some (L.foldl (λr k=>Row.kill k r) row)->pW P o ev R2 val R2
 st:∀t b x r ii off,o.guard=none->o.op=.store t (.tmp b) x->look env b=.ptr r ii off->ks=[]/\∀r',r'≠r->R'.getD r' none=R.getD r' none
 pu:∀q,o.guard=none->lZ env o.op=some q->ks=[]/\R'=R/\∀(ev:Operand->D) (R2:Rows),(∀x∈o.op.operands,ev x=cq env x)->pW P o ev R2 val R2
 cl:∀f args dv,o.guard=none->o.op=.call ⟨.value (.func f),args,dv⟩->(pr G f=none/\BQ G f=false)->ks=[]
 al:∀t,o.guard=none->o.op=.alloc t->ks=[]/\∃row arr,Vk P o row arr/\val=.ptr R.length 0 0/\R'=R++[some row]
 ap2:∀args dv,o.guard=none->o.op=.call ⟨.builtin .append,args,dv⟩->∀r row,R.getD r none=some row->cw r ks=false->R'.getD r none=some (row.kill ks)
 ap:∀args dv x l,o.guard=none->o.op=.call ⟨.builtin .append,args,dv⟩->args.toList=.tmp x::l->JS (look env x)=true->ks=[]/\∀r row,R.getD r none=some row->R'.getD r none=some row
theorem AP{a:Nat}:∀{l:List Operand},a∈mQ l↔Operand.tmp a∈l
 |[]=>by simp[mQ]
 |x::l=>by cases x<;>simp[mQ,AP (l:=l)]
theorem Zn2(h:pO op=some q){a:Nat}(ha:Operand.tmp a∈op.operands):a∈q:=by
 unfold pO at h
 split at h
 ·cases h;rw[AP];simpa[Op.operands]using ha
 ·cases h;rw[AP];simpa[Op.operands]using ha
 ·cases h;rw[AP];simpa[Op.operands]using ha
 ·cases h;rw[AP];simpa[Op.operands]using ha
 ·cases h;rw[AP];simpa[Op.operands]using ha
 ·split at h
  ·cases h
  ·cases h;rw[AP];simpa[Op.operands]using ha
 ·cases h
theorem Zes(h:pO op=some q):sk G op=false/\Gl op=false/\(∀t x,op≠.load t x)/\(∀t x y,op≠.store t x y)/\∀c,op≠.call c:=by
 unfold pO at h
 split at h<;>first|exact⟨rfl,rfl,λ_ _ h=>(by cases h),λ_ _ _ h=>(by cases h),λ_ h=>(by cases h)⟩|cases h
theorem yU(hq:pO op=some q)(h:im T op ev R K):
 ∃val,K val R/\∀(iz:Operand->D) (R2:Rows),(∀x∈op.operands,iz x=ev x)->im T op iz R2 λd R'=>d=val/\R'=R2:=by
 unfold pO at hq
 split at hq
 ·rename_i x
  simp only[im,D.dd]at h⊢
  exact⟨_,h,λiz R2 he=>⟨he x (by simp[Op.operands]),trivial⟩⟩
 ·rename_i x
  simp only[im,D.dd]at h⊢
  exact⟨_,h,λiz R2 he=>⟨he x (by simp[Op.operands]),trivial⟩⟩
 ·rename_i x n
  simp only[im]at h⊢
  split at h
  ·rename_i ds Eh
   simp only[dm,D.dd]at h
   refine⟨_,h.2,λiz R2 he=>?_⟩
   rw[he x (by simp[Op.operands]),Eh]
   simp only[dm,D.dd]
   exact⟨h.1,trivial,trivial⟩
  ·exact h.elim
 ·rename_i x
  simp only[im]at h⊢
  split at h
  ·rename_i hx
   refine⟨_,h,λiz R2 he=>?_⟩
   rw[he x (by simp[Op.operands]),hx]
   simp
  ·rename_i hx
   refine⟨_,h,λiz R2 he=>?_⟩
   rw[he x (by simp[Op.operands]),hx]
   simp
  ·exact h.elim
 ·rename_i t x f
  simp only[im]at h⊢
  split at h
  ·simp only[dm]at h⊢
   obtain⟨h0,h⟩:=h
   split at h
   ·rename_i hx
    refine⟨_,h,λiz R2 he=>⟨h0,?_⟩⟩
    rw[he x (by simp[Op.operands]),hx]
    simp
   ·rename_i hx
    refine⟨_,h,λiz R2 he=>⟨h0,?_⟩⟩
    rw[he x (by simp[Op.operands]),hx]
    simp
   ·exact h.elim
  ·exact h.elim
 ·rename_i t len parts
  simp only[im,HB]at h⊢
  cases hl:UZ t len
  rotate_left
  ·simp only[hl]at hq;cases hq
  simp only[hl,Aj]at h⊢
  obtain⟨val,h1,h2⟩:=Zmn h
  exact⟨val,h1,λiz R2 he=>h2 iz R2 λp hp=>he p.2 (by simp[Op.operands];exact⟨p.1,by simpa using hp⟩)⟩
 ·cases hq
theorem yw(hq:pO o.op=some q){K:St->Prop}(h:lR T G N M o st K):im T o.op (cq st.env) st.rows λd R=>st.put N o.dst d R K:=by
 obtain⟨dst,op,type,pos,after,guard⟩:=o
 simp only at hq⊢
 unfold pO at hq
 split at hq<;>first|exact h|cases hq
theorem xat{op:BinOp}{x y:D}{K:D->Prop}(h:sV T op t x y K):∃val,K val/\∀K',K' val->sV T op t x y K':=by
 unfold sV at h⊢
 split at h
 ·split at h
  ·simp only[dm]at h⊢;exact⟨_,h.2,λK' h'=>⟨h.1,h'⟩⟩
  ·simp only[dm]at h⊢;exact⟨_,h.2,λK' h'=>⟨h.1,h'⟩⟩
  ·rename_i n1 n2
   simp only[dm]at h⊢
   obtain⟨h1,h⟩:=h
   unfold U6 at h⊢
   split at h<;>first|exact⟨_,h,λK' h'=>⟨h1,h'⟩⟩|(simp only[dm]at h⊢;exact⟨_,h.2,λK' h'=>⟨h1,h.1,h'⟩⟩)|exact h.elim
 ·split at h<;>first|exact⟨_,h,λK' h'=>h'⟩|(simp only[dm]at h⊢;exact⟨_,h.2,λK' h'=>⟨h.1,h'⟩⟩)|exact h.elim
 ·split at h
  ·split at h<;>first|exact⟨_,h,λK' h'=>h'⟩|exact h.elim
  ·exact h.elim
 ·split at h
  ·simp only[dm]at h⊢
   obtain⟨h1,h⟩:=h
   split at h<;>first|exact⟨_,h,λK' h'=>⟨h1,h'⟩⟩|exact h.elim
  ·exact h.elim
 ·exact h.elim
theorem vU{s d:TypeId}{x:D}{K:D->Prop}(h:Mx T s d x K):∃val,K val/\∀K',K' val->Mx T s d x K':=by
 unfold Mx at h⊢
 split at h
 ·split at h
  ·exact⟨_,h,λK' h'=>h'⟩
  ·exact h.elim
 ·split at h
  ·exact⟨_,h,λK' h'=>h'⟩
  ·exact h.elim
 ·exact h.elim
theorem Zf6{place:Nat->Option (Nat×Nat)}{ev:Operand->D}:∀{parts:List (Nat×Operand)} {cs:List D} {K:List D->Prop},Fz place ev parts cs K->∃l,K l/\∀(iz:Operand->D) (K':List D->Prop),(∀p∈parts,iz p.2=ev p.2)->K' l->Fz place iz parts cs K'
 |[],cs,K,h=>by
  simp only[Fz,D.fk]at h⊢
  exact⟨_,h,λiz K' _ h'=>h'⟩
 |(i,x)::ps,cs,K,h=>by
  simp only[Fz]at h⊢
  split at h
  ·rename_i off n hp
   simp only[dm]at h
   obtain⟨h1,h⟩:=h
   obtain⟨l,g1,g2⟩:=Zf6 h
   refine⟨l,g1,λiz K' he h'=>?_⟩
   have hx:=he (i,x) (by simp)
   simp only at hx
   simp only[hx,dm]
   exact⟨h1,g2 iz K' (λp hpp=>he p (by simp[hpp])) h'⟩
  ·exact h.elim
theorem vw{parts:List (Nat×Operand)}(h:Mz T t parts ev R K):∃val,K val R/\∀(iz:Operand->D) (R2:Rows),(∀p∈parts,iz p.2=ev p.2)->Mz T t parts iz R2 λd R'=>d=val/\R'=R2:=by
 unfold Mz at h⊢
 split at h
 ·simp only[dm]at h⊢
  obtain⟨h1,h⟩:=h
  obtain⟨l,g1,g2⟩:=Zf6 h
  exact⟨_,g1,λiz R2 he=>⟨h1,g2 iz _ he (by simp)⟩⟩
 ·simp only[dm]at h⊢
  obtain⟨h1,h⟩:=h
  obtain⟨l,g1,g2⟩:=Zf6 h
  exact⟨_,g1,λiz R2 he=>⟨h1,g2 iz _ he (by simp)⟩⟩
 ·exact h.elim
theorem Z6s{str:List UInt8}{lo hi:Option Operand}(h:My T t (.str str) lo hi ev R K):∃val,K val R/\∀(iz:Operand->D) (R2:Rows),(∀y,lo=some y->iz y=ev y)->(∀y,hi=some y->iz y=ev y)->My T t (.str str) lo hi iz R2 λd R'=>d=val/\R'=R2:=by
 have Rb:∀(x:Option Operand) (n:Int) (iz:Operand->D),(∀y,x=some y->iz y=ev y)->r8 x iz n=r8 x ev n:=λx n iz he=>by
  unfold r8
  cases x with
  |none=>rfl
  |some y=>simp only[he y rfl]
 unfold My at h⊢
 split at h
 ·rename_i x1 x2 x3 x4 x5 ht
  simp only at h
  split at h
  ·rename_i l hh e1 e2
   simp only[dm]at h
   refine⟨_,h.2,λiz R2 he1 he2=>?_⟩
   simp only[Rb _ _ iz he1,Rb _ _ iz he2,e1,e2,dm]
   exact⟨h.1,trivial,trivial⟩
  ·exact h.elim
 ·simp only at h
 ·exact h.elim
 ·exact h.elim
theorem qx{env:List (Nat×D)}(hq:lZ env op=some q)(h:im T op (cq env) R K):
    ∃val,K val R/\ ∀(iz:Operand->D) (R2:Rows),(∀x∈op.operands,iz x=cq env x)->im T op iz R2 λd R'=>d=val/\R'=R2:=by
  unfold lZ at hq
  split at hq
  . rename_i q' hp;exact yU hp h
  . split at hq
    . rename_i t parts hn
      simp only[im]at h⊢
      obtain⟨val,g1,g2⟩:=vw h
      exact⟨val,g1,λiz R2 he=>g2 iz R2 λp hp=>he p.2 (by simp [Op.operands];exact⟨p.1,by simpa using hp⟩)⟩
    . rename_i op' t x y ty hn
      simp only[im]at h⊢
      obtain⟨val,g1,g2⟩:=xat h
      refine⟨val,g1,λiz R2 he=> ?_⟩
      rw[he x (by simp [Op.operands]),he y (by simp [Op.operands])]
      exact g2 _ (by simp)
    . rename_i op' t x hn
      simp only[im]at h⊢
      split at h
      all_goals first
        |exact h.elim
        | (rename_i hx
           refine⟨_,h,λiz R2 he=> ?_⟩
           rw[he x (by simp [Op.operands]),hx]
           simp)
    . rename_i s d x hn
      simp only[im]at h⊢
      obtain⟨val,g1,g2⟩:=vU h
      refine⟨val,g1,λiz R2 he=> ?_⟩
      rw[he x (by simp [Op.operands])]
      exact g2 _ (by simp)
    . rename_i s x f hn
      simp only[im]at h⊢
      split at h
      . split at h
        . rename_i cs ti hx ht
          simp only[dm]at h
          obtain⟨h1,h⟩:=h
          split at h
          . rename_i CR
            simp only[D.fk]at h
            refine⟨_,h,λiz R2 he=> ?_⟩
            simp only[he x (by simp [Op.operands]),hx,ht,dm,CR,D.fk]
            exact⟨h1,trivial,trivial⟩
          . rename_i CR
            simp only[dm,D.dd]at h
            refine⟨_,h.2,λiz R2 he=> ?_⟩
            simp only[he x (by simp [Op.operands]),hx,ht,dm,CR,D.dd]
            exact⟨h1,h.1,trivial,trivial⟩
        . exact h.elim
      . exact h.elim
    . rename_i t x y hn
      simp only[im]at h⊢
      split at h
      . rename_i ht hx hy
        simp only[dm]at h
        refine⟨_,h.2,λiz R2 he=> ?_⟩
        simp only[he x (by simp [Op.operands]),he y (by simp [Op.operands]),hx,hy,ht,dm]
        exact⟨h.1,trivial,trivial⟩
      . rename_i ht hx hy
        simp only[dm]at h
        obtain⟨h1,h⟩:=h
        split at h
        . rename_i Ab
          refine⟨_,h.2,λiz R2 he=> ?_⟩
          simp only[he x (by simp [Op.operands]),he y (by simp [Op.operands]),hx,hy,ht,dm,Ab]
          exact⟨h1,h.1,trivial,trivial⟩
        . rename_i Ab
          refine⟨_,h.2,λiz R2 he=> ?_⟩
          simp only[he x (by simp [Op.operands]),he y (by simp [Op.operands]),hx,hy,ht,dm,Ab]
          exact⟨h1,h.1,trivial,trivial⟩
        . exact h.elim
      . exact h.elim
    . rename_i t x y z hn
      split at hq
      . rename_i str hx
        simp only[im,hx]at h⊢
        obtain⟨val,g1,g2⟩:=Z6s h
        refine⟨val,g1,λiz R2 he=> ?_⟩
        rw[he x (by simp [Op.operands]),hx]
        exact g2 iz R2 (λu hu=>he u (by cases hu;simp [Op.operands])) (λu hu=>he u (by cases hu;simp [Op.operands]))
      . cases hq
    . rename_i t x y hn
      split at hq
      . rename_i str hx
        simp only[im,hx]at h⊢
        obtain⟨val,g1,g2⟩:=Z6s h
        refine⟨val,g1,λiz R2 he=> ?_⟩
        rw[he x (by simp [Op.operands]),hx]
        exact g2 iz R2 (λu hu=>he u (by cases hu;simp [Op.operands])) (λu hu=>he u (by cases hu))
      . cases hq
    . rename_i t x y hn
      split at hq
      . rename_i str hx
        simp only[im,hx]at h⊢
        obtain⟨val,g1,g2⟩:=Z6s h
        refine⟨val,g1,λiz R2 he=> ?_⟩
        rw[he x (by simp [Op.operands]),hx]
        exact g2 iz R2 (λu hu=>he u (by cases hu)) (λu hu=>he u (by cases hu;simp [Op.operands]))
      . cases hq
    . rename_i t x y hn
      split at hq
      . rename_i sz es fr hx
        simp only[im,hx]at h⊢
        split at h
        . rename_i k n hy
          unfold U8 at h⊢
          split at h
          . rename_i ht
            simp only[dm]at h
            refine⟨_,h.2,λiz R2 he=> ?_⟩
            simp only[he x (by simp [Op.operands]),he y (by simp [Op.operands]),hx,hy,ht,dm]
            exact⟨h.1,trivial,trivial⟩
          . simp only[dm]at h
            exact h.2.elim
          . exact h.elim
        . exact h.elim
      . cases hq
    . rename_i t x hn
      split at hq
      . rename_i sz es i off hx
        simp only[im,hx]at h⊢
        unfold wS at h⊢
        split at h
        . exact h.elim
        . rename_i ti ht
          simp only[dm]at h
          obtain⟨d,g1,g2⟩:=Vj h.2
          refine⟨d,g1,λiz R2 he=> ?_⟩
          simp only[he x (by simp [Op.operands]),hx,ht,dm]
          exact⟨h.1,g2 _ (by simp)⟩
      . cases hq
    . rename_i args dv hn
      split at hq
      . rename_i x gh
        have hxm:x∈(Op.call {callee:= .builtin .len,args:=args,argTypes:=dv}).operands:=by simp [Op.operands,Call.operands];rw[<-gL,gh];simp
        simp only[im,gh]at h⊢
        split at h
        . rename_i y t e1 e2
          cases e1
          rw[e2]at*
          split at hq
          . rename_i str hx
            simp only[hx]at h⊢
            unfold ta at h⊢
            split at h
            . simp only at h
              exact⟨_,h,λiz R2 he=>by simp only[he x hxm,hx];simp⟩
            . exact h.elim
            . exact h.elim
          . rename_i sz es fr hx
            simp only[hx]at h⊢
            unfold ta at h⊢
            split at h
            . exact h.elim
            . simp only at h
              exact⟨_,h,λiz R2 he=>by simp only[he x hxm,hx];simp⟩
            . exact h.elim
          . cases hq
        . exact h.elim
      . cases hq
    . cases hq
theorem Z7g{env:List (Nat×D)}(h:lZ env op=some q){a:Nat}(ha:Operand.tmp a∈op.operands):a∈q:=by
 unfold lZ at h
 split at h
 ·cases h;exact Zn2 (by assumption) ha
 ·split at h
  all_goals first
   |(cases h;done)
   |(cases h;rw[AP];simpa[Op.operands]using ha)
   |(split at h<;>first|(cases h;done)|(cases h;rw[AP];simpa[Op.operands]using ha))
   |skip
  split at h
  ·rename_i x hx
   have jH:Operand.tmp a=x:=by
    simp[Op.operands,Call.operands]at ha
    rw[<-gL,hx]at ha
    simpa using ha
   split at h<;>first|(cases h;done)|(cases h;rw[AP,jH];simp)
  ·cases h
theorem Z8q{env:List (Nat×D)}(h:lZ env op=some q):sk G op=false/\Gl op=false/\(∀t x y,op≠.store t x y)/\(∀f args dv,op≠.call ⟨.value (.func f),args,dv⟩)/\∀t,op≠.alloc t:=by
 unfold lZ at h
 split at h
 ·rename_i q' hp
  obtain⟨h1,h2,h3,h4,h5⟩:=Zes (G:=G) hp
  exact⟨h1,h2,h4,λ_ _ _=>h5 _,λt e=>by rw[e]at hp;cases hp⟩
 ·split at h<;>first|(cases h;done)|exact⟨rfl,rfl,λ_ _ _ h=>(by cases h),λ_ _ _ h=>(by cases h),λ_ h=>(by cases h)⟩
theorem Ztk(hq:lZ st.env o.op=some q){K:St->Prop}(h:lR T G N M o st K):im T o.op (cq st.env) st.rows λd R=>st.put N o.dst d R K:=by
  obtain⟨dst,op,type,pos,after,guard⟩:=o
  simp only at hq⊢
  unfold lZ at hq
  split at hq
  . rename_i q' hp
    exact yw (o:=⟨dst,op,type,pos,after,guard⟩) hp h
  . split at hq
    all_goals first
      |(cases hq;done)
      |exact h
      |skip
    . rename_i op' t x y ty hn
      unfold lR at h
      simp only at h
      split at h
      . rename_i hx hy
        rw[hx]at hq;cases hq
      . rename_i hx hy
        rw[hx]at hq;cases hq
      . exact h
    . rename_i s d x hn
      unfold lR at h
      simp only at h
      split at h
      . exfalso
        unfold wm at h
        split at h
        . split at h
          . rename_i he
            split at hq
            . rename_i hx;rw[hx]at he;cases he
            . rename_i hx;rw[hx]at he;cases he
            . cases hq
          . exact h
        . exact h
      . exact h
def tn:D->Bool|.all _=>true|.int _ _=>true|.str _=>true|.bool _=>true|.sl _ _ _=>true|.iC _ _ _ _=>true|.ptr _ _ _=>true|.emp=>true|.de=>true|_=>false
theorem Ze1(h:JS d=true):tn d=true:=by cases d<;>first|rfl|cases h
theorem Qoa(h:HC d=true):tn d=true:=by cases d<;>first|rfl|cases h
theorem Zot{ks:List Nat}{d p:D}(hp:tn p=true)(h:d.gy ks=p):d=p:=by
 subst h
 cases d with
 |all x=>simp only[D.gy,D.kill,D.ez]at hp⊢;cases hb:cw x ks<;>simp[hb,tn]at hp⊢
 |own x y z=>simp only[D.gy,D.kill,D.ez]at hp⊢;cases hb:cw x ks<;>simp[hb,tn]at hp
 |ptr x y z=>simp only[D.gy,D.kill,D.ez]at hp⊢;cases hb:cw x ks<;>simp[hb,tn]at hp⊢
 |pa x y z u v q=>simp only[D.gy,D.kill,D.ez]at hp⊢;cases hb:cw x ks<;>simp[hb,tn]at hp
 |gr x=>simp only[D.gy,D.kill,D.ez]at hp⊢;cases hb:cw x ks<;>simp[hb,tn]at hp
 |gx f cs=>simp only[D.gy,D.kill,D.ez]at hp⊢;cases hb:nW (oE cs) ks<;>simp[hb,tn]at hp
 |_=>first|rfl|simp[D.gy,D.kill,D.ez,tn]at hp
theorem Zta{env mo:List (Nat×D)}(h:lZ env op=some q)(hb: ∀a∈q,tn (look env a)=true->look mo a=look env a):lZ mo op=some q:=by
  have one: ∀(x:Operand),(∀a,x= .tmp a->a∈q)->tn (cq env x)=true->cq mo x=cq env x:=λx hx hs=>by
    cases x with
    |tmp a=>exact hb a (hx a rfl) hs
    |_=>rfl
  unfold lZ at h⊢
  split at h
  . exact h
  . split at h
    all_goals first
      |(cases h;done)
      |exact h
      |skip
    all_goals
      split at h
      all_goals first
        |(cases h;done)
        | (rename_i hx
           cases h
           first
             |(have:=one _ (λa e=>by rw[AP,<-e];exact eU) (by rw[hx];rfl);rw[this,hx])
             |(have:=one _ (λa e=>by rw[AP,<-e];simp) (by rw[hx];rfl);rw[this,hx]))
        |skip
    split at h
    all_goals first
      |(cases h;done)
      | (rename_i hx
         cases h
         have:=one _ (λa e=>by rw[AP,<-e];exact eU) (by rw[hx];rfl);rw[this,hx])
theorem xx{t tx:TypeId}{x y:D}{K:List Nat->D->Rows->Prop}(h:Mj T M t tx x y R K):
 Mj T M t tx x y R λks d R'=>((JS x=true->ks=[]/\∀r row,R.getD r none=some row->R'.getD r none=some row)/\∀r row,R.getD r none=some row->cw r ks=false->R'.getD r none=some (row.kill ks))/\K ks d R':=by
 have go:∀{e sz lH:Nat} {JT:List Nat} {es ys:ai},(JS x=true->JT=[])->Z6 e sz lH R JT es ys K->Z6 e sz lH R JT es ys λks d R'=>((JS x=true->ks=[]/\∀r row,R.getD r none=some row->R'.getD r none=some row)/\∀r row,R.getD r none=some row->cw r ks=false->R'.getD r none=some (row.kill ks))/\K ks d R':=by
  intro e sz lH JT es ys hx h
  simp only[Z6,dm,nA]at h⊢
  have key:∀r row,R.getD r none=some row->cw r JT=false->(r6 JT R 0++[some (⟨false,e,sz,es.app ys⟩:Row)]).getD r none=some (row.kill JT):=λr row hr hm=>by
   have hl:r<R.length:=by
    by_cases hh:r<R.length
    ·exact hh
    ·simp only[aV,aJ (show R.length<=r by omega)]at hr;cases hr
   rw[Qpp (by rw[Qa];exact hl),PS,hr,Nat.zero_add,hm]
   simp
  refine⟨h.1,⟨λe=>⟨hx e,λr row hr=>?_⟩,key⟩,h.2⟩
  have:=key r row hr (by rw[hx e];rfl)
  rw[this,hx e,Z4t]
 unfold Mj at h⊢
 split at h
 ·split at h
  ·split at h
   ·rename_i jX
    simp only[dm]at h⊢
    refine⟨h.1,?_⟩
    have h:=h.2
    cases x<;>first|(exact h.elim;done)|(exact go (λ_=>rfl) h;done)|skip
    all_goals
     (try simp only at h⊢)
     split at h
     ·exact⟨h.1,go (λe=>by cases e) h.2⟩
     ·exact h.elim
   ·exact h.elim
  ·exact h.elim
 ·exact h.elim
theorem Zs8(hT:jm P T)(hG:jF P G){l:List Oper}{K:St->Prop}(h:mb T G N M ops (o::l) st K):
    ∃ks val R' iM,(∀t,look iM t=look (si ks st.env) t)/\(∀t,o.dst=some t->t<N)/\nK P G M ops o st.env st.rows ks val R'/\mb T G N M ops l ⟨sj iM o.dst val,R'⟩ K/\JR P G o st.env st.rows ks val R':=by
  by_cases hL: ∃t a r ii off,o.guard=none/\o.op= .load t (.tmp a)/\look st.env a= .ptr r ii off
  . obtain⟨t,a,r,ii,off,hg,ho,ha⟩:=hL
    simp only[mb,hg,lR,ho,im,cq,ha]at h
    obtain⟨d,h1,h2,h3⟩:=Zi h
    obtain⟨g1,g2⟩:=oU h1
    have hN: ∀(ev:Operand->D) (R2:Rows),ev (.tmp a)= .ptr r ii off->R2.getD r none=st.rows.getD r none->pW P o ev R2 d R2:=λev R2 he uM=>by
      have:=h3 R2 uM
      obtain⟨val,R',⟨rfl,rfl⟩,hO⟩:=Np hT o ev R2 (λd' R'=>d'=d/\R'=R2) (by simp only[ho,im,he];exact this)
      simpa [ho,Gl] using hO
    have hN2: ∀(ev:Operand->D) (R2:Rows) row (L:List (List Nat)),pN d=true->(∀kk∈L,d.ez kk=d)->ev (.tmp a)= .ptr r ii off->st.rows.getD r none=some row->R2.getD r none=some (L.foldl (λr k=>Row.kill k r) row)->pW P o ev R2 d R2:=λev R2 row L hd hL he hr uM=>by
      have:=Zru (h3 st.rows rfl) hd hL hr uM
      obtain⟨val,R',⟨rfl,rfl⟩,hO⟩:=Np hT o ev R2 (λd' R'=>d'=d/\R'=R2) (by simp only[ho,im,he];exact this)
      simpa [ho,Gl] using hO
    refine⟨[],d,st.rows,st.env,λt=>oQ.symm,g1,?_,g2,λt' a' r' mj iS _ jv jH=> ?_,λt' b x r' mj iS _ jv=> ?_,λq _ hq=> ?_,λf args dv _ hf _=>by simp [ho]at hf,λt' _ hf=>by simp [ho]at hf,λargs dv _ hf=>by simp [ho]at hf,λargs dv x' l' _ hf=>by simp [ho]at hf⟩
    . unfold nK
      simp only[hg]
      exact AX (by rw[ho];rfl) (hN _ _ (by simp [cq,ha]) rfl)
    . rw[ho]at jv;cases jv
      rw[ha]at jH;cases jH
      exact⟨rfl,rfl,h2,hN,hN2⟩
    . rw[ho]at jv;cases jv
    . rw[ho]at hq;simp [lZ,pO,cq,ha]at hq
  . by_cases hS : ∃t b x r ii off,o.guard=none/\o.op= .store t (.tmp b) x/\look st.env b= .ptr r ii off
    . obtain⟨t,b,x,r,ii,off,hg,ho,hb⟩:=hS
      simp only[mb,hg,lR,ho,im]at h
      rw[show cq st.env (.tmp b)= .ptr r ii off by simp [cq,hb]]at h
      obtain⟨R',h1,h2,h3⟩:=Zfe h
      obtain⟨g1,g2⟩:=oU h1
      obtain⟨val,R2,⟨rfl,rfl⟩,hO⟩:=Np hT o (cq st.env) st.rows (λd' R2=>d'= .dead/\R2=R') (by simp only[ho,im];rw[show cq st.env (.tmp b)= .ptr r ii off by simp [cq,hb]];exact h3)
      refine⟨[], .dead,R2,st.env,λt=>oQ.symm,g1,?_,g2,λt' a' r' mj iS _ jv=> ?_,λt' b' x' r' mj iS _ jv rU=> ?_,λq _ hq=> ?_,λf args dv _ hf _=>by simp [ho]at hf,λt' _ hf=>by simp [ho]at hf,λargs dv _ hf=>by simp [ho]at hf,λargs dv x' l' _ hf=>by simp [ho]at hf⟩
      . unfold nK
        simp only[hg]
        have hO':Ew P o (cq st.env) st.rows .dead R2:=by simpa [ho,Gl] using hO
        exact BO (by rw[ho];rfl) (λk hk=>by simp [cw]at hk) hO'.toK
      . rw[ho]at jv;cases jv
      . rw[ho]at jv;cases jv
        rw[hb]at rU;cases rU
        exact⟨rfl,h2⟩
      . rw[ho]at hq;cases hq
    . by_cases hP : ∃q,o.guard=none/\lZ st.env o.op=some q
      . obtain⟨q,hg,hq⟩:=hP
        simp only[mb,hg]at h
        have rS:=Ztk hq h
        obtain⟨val,Jae,Jaf⟩:=qx hq rS
        obtain⟨hW,hS',Nh,hnc,hna⟩:=Z8q (G:=G) hq
        have hN: ∀(ev:Operand->D) (R2:Rows),(∀x∈o.op.operands,ev x=cq st.env x)->pW P o ev R2 val R2:=λev R2 he=>by
          obtain⟨Jay,R',⟨rfl,rfl⟩,hO⟩:=Np hT o ev R2 _ (Jaf ev R2 he)
          simpa [hS'] using hO
        obtain⟨g1,g2⟩:=oU Jae
        refine⟨[],val,st.rows,st.env,λt=>oQ.symm,g1,?_,g2,λt' a' r' mj iS hg' jv jH=>(hL ⟨t',a',r',mj,iS,hg',jv,jH⟩).elim,λt' b' x' r' mj iS _ jv=>(Nh _ _ _ jv).elim,λq' _ FL=>⟨rfl,rfl,hN⟩,λf args dv _ hf _=>(hnc _ _ _ hf).elim,λt' _ hf=>(hna _ hf).elim,λargs dv _ hf=>by rw[hf]at hq;simp [lZ,pO]at hq,λargs dv x' l' _ hf=>by rw[hf]at hq;simp [lZ,pO]at hq⟩
        unfold nK
        simp only[hg]
        exact AX hW (hN _ _ (λ_ _=>rfl))
      . by_cases hC: ∃f args dv,o.guard=none/\o.op= .call ⟨.value (.func f),args,dv⟩/\(pr G f=none/\BQ G f=false)
        . obtain⟨f,args,dv,hg,ho,lQ,Ev⟩:=hC
          obtain⟨dst,op,type,pos,after,guard⟩:=o
          simp only at hg ho
          subst hg;subst ho
          simp only[mb,lR,lQ,Ev]at h
          have H4: ∀x,oV G f=some x->x.pw=false:=λx hx=>by simpa [BQ,hx] using Ev
          obtain⟨val,R',x,hK,hx,hO,hN⟩:=Wv (dst:=dst) (type:=type) (pos':=pos) (after:=after) (guard:=none) (dv:=dv) hG lQ h
          obtain⟨g1,g2⟩:=oU hK
          refine⟨[],_,_,st.env,λt=>oQ.symm,g1,?_,g2,λt' a' r' mj iS _ jv=>(by cases jv),λt' b' x' r' mj iS _ jv=>(by cases jv),λq' _ FL=>(by cases FL),λ_ _ _ _ _ _=>rfl,λt' _ hf=>(by cases hf),λargs dv _ hf=>(by cases hf),λargs dv x' l' _ hf=>(by cases hf)⟩
          unfold nK
          cases hr:x.refs with
          |nil=>exact AX (by simp only[sk,hx,hr,H4 x hx]) (hN hr)
          |cons b bs=>exact BO (by simp only[sk,hx,hr]) (λk hk=>by simp [cw]at hk) hO.toK
        . by_cases hAl: ∃t,o.guard=none/\o.op= .alloc t
          . obtain⟨t,hg,ho⟩:=hAl
            obtain⟨dst,op,type,pos,after,guard⟩:=o
            simp only at hg ho
            subst hg;subst ho
            simp only[mb,lR,im]at h
            split at h
            . rename_i ht
              simp only[dm,aE,KA]at h
              obtain⟨⟨h0,hl⟩,h⟩:=h
              obtain⟨g1,g2⟩:=oU h
              obtain⟨arr,hA⟩:=Zri (o:=⟨dst, .alloc t,type,pos,after,none⟩) hT rfl ht (lE h0) (bE hl)
              refine⟨[],_,_,st.env,λt=>oQ.symm,g1,?_,g2,λt' a' r' mj iS _ jv=>(by cases jv),λt' b' x' r' mj iS _ jv=>(by cases jv),λq' _ FL=>(by cases FL),λ_ _ _ _ hf=>(by cases hf),λt' _ hf=>⟨rfl,_,arr,hA,rfl,rfl⟩,λargs dv _ hf=>(by cases hf),λargs dv x' l' _ hf=>(by cases hf)⟩
              unfold nK
              exact AX rfl (P3 λc w a hm SG fe=>⟨_,rfl,Zq6 hT ht (lE h0) (bE hl) st.rows.length c w⟩)
            . exact h.elim
          by_cases hAp: ∃args dv,o.guard=none/\o.op= .call ⟨.builtin .append,args,dv⟩
          . obtain⟨args,dv,hg,ho⟩:=hAp
            obtain⟨dst,op,type,pos,after,guard⟩:=o
            simp only at hg ho
            subst hg;subst ho
            simp only[mb,lR]at h
            split at h
            . rename_i x y t tx pA ht
              have JU:args= #[x,y]:=by rw[<-bW (xs:=args),pA]
              have uo:dv= #[t,tx]:=by rw[<-bW (xs:=dv),ht]
              subst JU;subst uo
              have h':=xx h
              obtain⟨ks,R',⟨⟨Jag,CJ⟩,hK⟩,hM,hr⟩:=Zpb (ty:=type) hT h'
              rw[H3]at hK
              obtain⟨h1,h2⟩:=oU hK
              refine⟨ks,_,_,_,λt=>rfl,h1,?_,h2,λt' a' r' mj iS _ jv=>(by cases jv),λt' b' x' r' mj iS _ jv=>(by cases jv),λq' _ FL=>(by cases FL),λ_ _ _ _ hf=>(by cases hf),λt' _ hf=>(by cases hf),λargs dv _ hf r row hr hm=>CJ r row hr hm,λargs dv x' l' _ hf ha he=> ?_⟩
              rotate_left
              . cases hf
                have hx:x= .tmp x':=by
                  have:=congrArg List.head? ha
                  simpa using this
                subst hx
                exact Jag he
              unfold nK
              refine BO rfl hM λc w a hm hb hR fe K' Q ry=> ?_
              obtain⟨v',w',c',iy,hn,j8,hv⟩:=hr c w _ _ hm hb hR (fe x (by simp [Op.operands,Call.operands])) (fe y (by simp [Op.operands,Call.operands]))
              refine Gm ?_ (ry v' w' c' hn j8 hv)
              simp only[execOp,resolve,Sem.run_bind,Sem.run_pure,Result.andThen_ok,invoke,builtin]
              have:(#[x,y]:Array Operand).map a.eval= #[a.eval x,a.eval y]:=by simp
              rw[this,iy];rfl
            . exact h.elim
          obtain⟨ks,val,R',iM,h0,h1,h2,h3⟩:=Wc hT hG h
          exact⟨ks,val,R',iM,h0,h1,h2,h3,λt a r ii off hg ho ha=>(hL ⟨t,a,r,ii,off,hg,ho,ha⟩).elim,λt b x r ii off hg ho hb=>(hS ⟨t,b,x,r,ii,off,hg,ho,hb⟩).elim,λq hg hq=>(hP ⟨q,hg,hq⟩).elim,λf args dv hg ho lQ=>(hC ⟨f,args,dv,hg,ho,lQ⟩).elim,λt hg ho=>(hAl ⟨t,hg,ho⟩).elim,λargs dv hg ho=>(hAp ⟨args,dv,hg,ho⟩).elim,λargs dv x l' hg ho ha he=>(hAp ⟨args,dv,hg,ho⟩).elim⟩
theorem Rc(h:pN d=true):tn d=true:=by cases d<;>first|rfl|cases h
theorem zx{ks:List Nat}(h:d.gy ks=.ptr r i off):d=.ptr r i off:=by
 cases d with
 |all x=>simp only[D.gy,D.kill,D.ez]at h;cases hb:cw x ks<;>rw[hb]at h<;>cases h
 |own x y z=>simp only[D.gy,D.kill,D.ez]at h;cases hb:cw x ks<;>rw[hb]at h<;>cases h
 |ptr x y z=>simp only[D.gy,D.kill,D.ez]at h;cases hb:cw x ks<;>rw[hb]at h<;>cases h;rfl
 |pa x y z u v q=>simp only[D.gy,D.kill,D.ez]at h;cases hb:cw x ks<;>rw[hb]at h<;>cases h
 |gr x=>simp only[D.gy,D.kill,D.ez]at h;cases hb:cw x ks<;>rw[hb]at h<;>cases h
 |gx f cs=>simp only[D.gy,D.kill,D.ez]at h;cases hb:nW (oE cs) ks<;>rw[hb]at h<;>cases h
 |ee ds=>simp[D.gy]at h
 |agg ds=>simp[D.gy,D.kill]at h
 |_=>simp[D.gy,D.kill,D.ez]at h
theorem JV{i a k:Nat}(h:kZ ops i a=true)(hk:i<=k)(ho:ops[k]?=some o):o.dst≠some a:=by
 intro hd
 have hm:o∈ops.toList.drop i:=by
  have h1:(ops.toList.drop i)[k-i]?=some o:=by
   rw[List.getElem?_drop,show i+(k-i)=k by omega];simpa using ho
  exact fL h1
 have:=List.all_eq_true.1 h o hm
 simp[hd]at this
theorem Zrv{f:FuncId}(h:(match pr G f with|some _=>true|none=>BQ G f)=false):pr G f=none/\BQ G f=false:=by
 cases hg:pr G f with
 |none=>rw[hg]at h;exact⟨rfl,h⟩
 |some k=>rw[hg]at h;cases h
def JW(ops:Array Oper)(env:List (Nat×D))(i:Nat)(o:Oper)(q:List Nat):Prop:=
 (∀a∈q,kZ ops i a=true/\HC (look env a)=true)/\∀t,o.dst=some t->kZ ops (i+1) t=true/\HC (look env t)=true
theorem Vl{env:List (Nat×D)}(h:pO op=some q):lZ env op=some q:=by
 unfold lZ;rw[h]
theorem Rd{env:List (Nat×D)}(hx:ops[i]?=some x)(hy:ops[j]?=some y)(h:MF G ops env i j=true):
 (∃t a t' b z r r' ii off mj iS,x.guard=none/\y.guard=none/\x.op=.load t (.tmp a)/\y.op=.store t' (.tmp b) z/\kZ ops i a=true/\kZ ops j b=true/\look env a=.ptr r ii off/\look env b=.ptr r' mj iS/\r≠r')\/
 (∃q,x.guard=none/\y.guard=none/\lZ env x.op=some q/\(∀a∈q,kZ ops i a=true)/\((∃t' b z r' mj iS,y.op=.store t' (.tmp b) z/\kZ ops j b=true/\look env b=.ptr r' mj iS)\/∃f args dv,y.op=.call ⟨.value (.func f),args,dv⟩/\(pr G f=none/\BQ G f=false)))\/
 (∃q,x.guard=none/\pO x.op=some q/\JW ops env i x q)\/
 (∃t a r ii off args dv x0 l,x.guard=none/\y.guard=none/\x.op=.load t (.tmp a)/\kZ ops i a=true/\look env a=.ptr r ii off/\y.op=.call ⟨.builtin .append,args,dv⟩/\args.toList=.tmp x0::l/\kZ ops j x0=true/\JS (look env x0)=true)\/
 (∃t a r ii off args dv td,x.guard=none/\y.guard=none/\x.op=.load t (.tmp a)/\kZ ops i a=true/\look env a=.ptr r ii off/\y.op=.call ⟨.builtin .append,args,dv⟩/\x.dst=some td/\kZ ops (i+1) td=true/\pN (look env td)=true):=by
 unfold MF at h
 simp only[hx,hy]at h
 split at h
 ·rename_i t a t' b z h1 h2 h3 h4
  simp only[aE]at h
  obtain⟨g1,g2,g3⟩:=h
  split at g3
  ·rename_i r ii off r' mj iS e1 e2
   refine .inl ⟨t,a,t',b,z,r,r',ii,off,mj,iS,h1,h2,h3,h4,g1,g2,e1,e2,λe=>?_⟩
   subst e
   simp at g3
  ·rename_i sz es k off r' mj iS e1 e2
   exact .inr (.inl ⟨[a],h1,h2,by rw[h3];simp[lZ,pO,cq,e1,mQ],λa' ha=>by simp at ha;subst ha;exact g1,.inl ⟨t',b,z,r',mj,iS,h4,g2,e2⟩⟩)
  ·cases g3
 ·rename_i op t' b z h1 h2 h4 _
  split at h
  ·rename_i q hq
   simp only[aE]at h
   obtain⟨g1,g2,g3⟩:=h
   split at g3
   ·rename_i r' mj iS e2
    exact .inr (.inl ⟨q,h1,h2,hq,λa ha=>List.all_eq_true.1 g1 a ha,.inl ⟨t',b,z,r',mj,iS,h4,g2,e2⟩⟩)
   ·cases g3
  ·cases h
 ·rename_i op f dv h1 h2 h4
  split at h
  ·cases h
  ·rename_i Ie
   have Jah:=Zrv Ie
   split at h
   ·rename_i q hq
    exact .inr (.inl ⟨q,by assumption,by assumption,hq,λa ha=>List.all_eq_true.1 h a ha,.inr ⟨_,_,_,by assumption,Jah⟩⟩)
   ·cases h
 ·rename_i op args dv h1 h2 h4 _
  split at h
  ·rename_i q hq
   simp only[aE]at h
   refine .inr (.inr (.inl ⟨q,by assumption,hq,λa ha=>?_,λt ht=>?_⟩))
   ·have:=List.all_eq_true.1 h.1 a ha
    simpa only[aE]using this
   ·have:=h.2
    simp only[ht,aE]at this
    exact this
  ·have Re:∀{d:D},HC d=true->∃r ii off,d=.ptr r ii off:=fun{d} k=>by
    cases d<;>first|(cases k;done)|exact⟨_,_,_,rfl⟩
   rcases Bool.or_eq_true_iff.1 h with h|h
   ·unfold Dj at h
    split at h
    ·rename_i t a x0 l hxo hl
     simp only[aE]at h
     obtain⟨k1,k2,k3,k4⟩:=h
     obtain⟨r,ii,off,hr⟩:=Re k3
     exact .inr (.inr (.inr (.inl ⟨t,a,r,ii,off,dv,h1,x0,l,by assumption,by assumption,hxo,k1,hr,by assumption,hl,k2,k4⟩)))
    ·cases h
   ·unfold Dk at h
    split at h
    ·rename_i t a td hxo tW
     simp only[aE]at h
     obtain⟨k1,k2,k3,k4⟩:=h
     obtain⟨r,ii,off,hr⟩:=Re k2
     exact .inr (.inr (.inr (.inr ⟨t,a,r,ii,off,dv,h1,td,by assumption,by assumption,hxo,k1,hr,by assumption,tW,k3,k4⟩)))
    ·cases h
 ·cases h
theorem Zma(hy:ops[j]?=some y)(h:uY ops j=true):(∃t,y.guard=none/\y.op=.alloc t)/\∀u,y.dst=some u->∀k o',k≠j->ops[k]?=some o'->o'.dst≠some u:=by
 unfold uY at h
 simp only[hy]at h
 split at h
 ·rename_i t h1 h2
  refine⟨⟨t,h1,h2⟩,λu hu k o' hk eh hd=>?_⟩
  simp only[hu]at h
  have bg:=(Array.getElem?_eq_some_iff.1 eh).1
  have:=List.all_eq_true.1 h k (List.mem_range.2 bg)
  simp only[eh,aW,hd,aT]at this
  rcases this with this|this
  ·exact hk (bE this)
  ·simp at this
 ·cases h
theorem FM{env:List (Nat×D)}(h:Rf G ops env=true)(Kj:i<j)(hx:ops[i]?=some x)(hy:ops[j]?=some y):
 (x.apart ops y=true\/((Region.before ops).getD j 0).testBit i=true)/\((lh G x.op=true/\lh G y.op=true)\/((Region.before ops).getD j 0).testBit i=true\/MF G ops env i j=true\/((∃t,y.guard=none/\y.op=.alloc t)/\∀u,y.dst=some u->∀k o',k≠j->ops[k]?=some o'->o'.dst≠some u)):=by
 have hj:=(Array.getElem?_eq_some_iff.1 hy).1
 have h1:=List.all_eq_true.1 h j (List.mem_range.2 hj)
 simp only[aE]at h1
 have h2:=List.all_eq_true.1 h1.2 i (List.mem_range.2 Kj)
 unfold wY at h2
 simp only[hx,hy,aE,aT]at h2
 exact⟨h2.1,h2.2.elim (λg=>g.elim .inl (λg=>.inr (.inl g))) (λg=>g.elim (λg=>.inr (.inr (.inl g))) (λg=>.inr (.inr (.inr (Zma hy g)))))⟩
theorem Zhl{env:List (Nat×D)}(h:Rf G ops env=true)(hy:ops[j]?=some y):∀e∈y.after,Region.binds .any e=true->e.on<j:=by
 have hj:=(Array.getElem?_eq_some_iff.1 hy).1
 have h1:=List.all_eq_true.1 h j (List.mem_range.2 hj)
 simp only[aE,hy]at h1
 intro e he hb
 have:=Array.all_eq_true'.1 h1.1 e he
 simp only[hb,Bool.not_true,Bool.false_or]at this
 exact lE this
theorem qau{env:List (Nat×D)}{ks:List Nat}{val:D}{R':Rows}(hi:ops[i]?=some o)
 (hm:Mem c w) (hb:c.base<=w.heap.size) (hR:∀r,c.R r=R.getD r none) (fe:∀t∈o.looksAt ops,Rep c w (look env t) (a.tmps.getD t undef)) (hG:nK P G M ops o env R ks val R') {K:Act->World->Prop} {Q:Exit->Act->World->Prop}
 (hK:∀v w' c',(∀k,cw k ks=true->M<=k)->jP ks c w c' w'->(∀r,c'.R r=R'.getD r none)->Rep c' w' val v->K (a.put o.dst v) w'):wpOp P ops Q i K a w:=by
 have hx:∀x∈o.op.operands,Rep c w (cq env x) (a.eval x):=λx hx=>by
  cases x with
  |tmp t=>
   refine fe t ?_
   unfold Oper.looksAt
   exact eS _ (List.mem_filterMap.2 ⟨.tmp t,by simpa using hx,rfl⟩)
  |const v=>
   simp only[cq,Act.eval]
   cases hv:Ge v with
   |none=>trivial
   |some d=>exact Nj hv c w
  |global g=>trivial
  |func f=>exact Kp f
 have run:pS P G M o (cq env) R ks val R'->o.nu P a w K Q:=λhX=>hX.toK.2 c w a hm hb hR hx K Q λv w' c' h1 h2 h3=>hK v w' c' hX.toK.1 h1 h2 h3
 have skip:ks=[]->val=.ee []->R'=R->K (a.put o.dst undef) w:=λe0 e1 e2=>by
  subst e0;subst e1;subst e2
  exact hK undef w c (λk hk=>by simp[cw]at hk) (lO.toK ⟨hm,jh.refl _ _,Fr.refl _ _,λb hb=>.inl hb,λr row hr v=>.inl ⟨⟨row,hr⟩,v,rfl⟩⟩) hR (SH _ _)
 unfold wpOp
 simp only[hi]
 unfold nK at hG
 cases hg:o.guard with
 |none=>
  simp only[hg]at hG
  have hw:Region.wanted o (yielded ops a.tmps)=true:=by simp[Region.wanted,hg]
  rw[if_pos hw]
  exact run hG
 |some jw=>
  obtain⟨j,want⟩:=jw
  simp only[hg]at hG
  obtain⟨g,h2,hG⟩:=hG
  have hr:=fe g (by
   unfold Oper.looksAt
   refine eX _ ?_
   simp only[hg,h2];simp)
  rcases hG with⟨b,h3,h4⟩|⟨h3,e0,e1,e2⟩
  rotate_left
  ·rw[h3]at hr
   rw[if_neg (by rw[SI (o:=o) hg h2 hr];simp)]
   exact skip e0 e1 e2
  rw[h3]at hr
  have hw:=SJ (o:=o) hg h2 hr
  by_cases e:b=want
  ·rw[if_pos e]at h4
   rw[if_pos (by rw[hw];simpa using e)]
   exact run h4
  ·rw[if_neg e]at h4
   rw[if_neg (by rw[hw];simpa using e)]
   exact skip h4.1 h4.2.1 h4.2.2
structure Vm(P:Program)(G:List bc)(N M:Nat)(ops:Array Oper)(s:Nat->St)(ks:Nat->List Nat)(val:Nat->D):Prop extends Chain P G N M ops s ks val where
 mH:∀(i:Nat) (o:Oper),ops[i]?=some o->JR P G o (s i).env (s i).rows (ks i) (val i) (s (i+1)).rows
theorem Zky{P:Program}{T:iG}(hT:jm P T){G:List bc}(hG:jF P G){N M:Nat}{ops:Array Oper}{K:St->Prop}:∀(l:List Oper) (k:Nat) (st:St),ops.toList.drop k=l->mb T G N M ops l st K->
 ∃ (s:Nat->St) (ks:Nat->List Nat) (val:Nat->D),s k=st/\K (s (k+l.length))/\(∀(i:Nat) (o:Oper),k<=i->ops[i]?=some o->nK P G M ops o (s i).env (s i).rows (ks i) (val i) (s (i+1)).rows)/\
  (∀(i:Nat) (o:Oper) (t:Nat),k<=i->ops[i]?=some o->look (s (i+1)).env t=if o.dst=some t then val i else look (si (ks i) (s i).env) t)/\(∀(i:Nat) (o:Oper) (t:Nat),k<=i->ops[i]?=some o->o.dst=some t->t<N)/\
  (∀(i:Nat) (o:Oper),k<=i->ops[i]?=some o->JR P G o (s i).env (s i).rows (ks i) (val i) (s (i+1)).rows)
 |[],k,st,hk,h=>by
  have hlen:ops.size<=k:=by
   have:=congrArg List.length hk
   simp at this;omega
  have no:∀(i:Nat) (o:Oper),k<=i->ops[i]?=some o->False:=λi o hi ho=>by
   have:=(Array.getElem?_eq_some_iff.1 ho).1;omega
  exact⟨λ_=>st,λ_=>[],λ_=>.dead,rfl,h,λi o hi ho=>(no i o hi ho).elim,λi o t hi ho=>(no i o hi ho).elim,λi o t hi ho=>(no i o hi ho).elim,λi o hi ho=>(no i o hi ho).elim⟩
 |o ::l,k,st,hk,h=>by
  have bg:k<ops.toList.length:=by
   by_cases bg:k<ops.toList.length
   ·exact bg
   ·rw[List.drop_eq_nil_of_le (by omega)]at hk;cases hk
  rw[List.drop_eq_getElem_cons bg]at hk
  have ho:ops[k]?=some o:=by
   have:=(List.cons.inj hk).1
   rw[<-this]
   simp at bg
   simp[bg]
  obtain⟨kk,v,R',iM,h1,h2,h3,h4,h5⟩:=Zs8 hT hG h
  obtain⟨s,ks,val,g1,g2,g3,g4,g5,g6⟩:=Zky hT hG l (k+1) _ (List.cons.inj hk).2 h4
  refine⟨λi=>if i=k then st else s i,λi=>if i=k then kk else ks i,λi=>if i=k then v else val i,by simp,?_,λi p hi hp=>?_,λi p t hi hp=>?_,λi p t hi hp hd=>?_,λi p hi hp=>?_⟩
  ·simp only[List.length_cons]
   rw[if_neg (by omega),show k+(l.length+1)=k+1+l.length by omega]
   exact g2
  ·by_cases e:i=k
   ·subst e
    rw[ho]at hp;cases hp
    simp only[if_true,show¬i+1=i by omega,if_false,g1]
    exact h3
   ·simp only[if_neg e,if_neg (show¬i+1=k by omega)]
    exact g3 i p (by omega) hp
  ·by_cases e:i=k
   ·subst e
    rw[ho]at hp;cases hp
    simp only[if_true,show¬i+1=i by omega,if_false,g1]
    cases tW:o.dst with
    |none=>simp[sj,h1]
    |some u=>simp only[sj,AV,Option.some.injEq,h1]
   ·simp only[if_neg e,if_neg (show¬i+1=k by omega)]
    exact g4 i p t (by omega) hp
  ·by_cases e:i=k
   ·subst e
    rw[ho]at hp;cases hp
    exact h2 t hd
   ·exact g5 i p t (by omega) hp hd
  ·by_cases e:i=k
   ·subst e
    rw[ho]at hp;cases hp
    simp only[if_true,show¬i+1=i by omega,if_false,g1]
    exact h5
   ·simp only[if_neg e,if_neg (show¬i+1=k by omega)]
    exact g6 i p (by omega) hp
section
variable {P:Program} {G:List bc} {N M:Nat} {ops:Array Oper} {s:Nat->St} {ks:Nat->List Nat} {val:Nat->D} (hc:Vm P G N M ops s ks val)
include hc
theorem Ej{i a r ii off:Nat}(hn:kZ ops i a=true)(h:look (s ops.size).env a=.ptr r ii off):∀{k:Nat},i<=k->k<=ops.size->look (s k).env a=.ptr r ii off:=by
 intro k oq hk
 obtain⟨n,QS⟩:∃n,ops.size=k+n:=⟨ops.size-k,by omega⟩
 have:∀n k,i<=k->k+n<=ops.size->look (s (k+n)).env a=.ptr r ii off->look (s k).env a=.ptr r ii off:=by
  intro n
  induction n with
  |zero=>intro k _ _ h;exact h
  |succ n ih=>
   intro k h1 h2 h3
   have ho:ops[k]?=some ops[k]:=aU (by omega)
   have h4:=ih (k+1) (by omega) (by omega) (by rw[show k+1+n=k+(n+1) by omega];exact h3)
   rw[hc.env k _ a ho,if_neg (JV hn h1 ho),BP]at h4
   exact zx h4
 exact this n k oq (by omega) (by rw[<-QS];exact h)
theorem Ek{i a:Nat}(hn:kZ ops i a=true)(h:tn (look (s ops.size).env a)=true):∀{k:Nat},i<=k->k<=ops.size->look (s k).env a=look (s ops.size).env a:=by
 intro k oq hk
 obtain⟨n,QS⟩:∃n,ops.size=k+n:=⟨ops.size-k,by omega⟩
 have:∀n k,i<=k->k+n<=ops.size->∀p,tn p=true->look (s (k+n)).env a=p->look (s k).env a=p:=by
  intro n
  induction n with
  |zero=>intro k _ _ p _ h;exact h
  |succ n ih=>
   intro k h1 h2 p hp h3
   have ho:ops[k]?=some ops[k]:=aU (by omega)
   have h4:=ih (k+1) (by omega) (by omega) p hp (by rw[show k+1+n=k+(n+1) by omega];exact h3)
   rw[hc.env k _ a ho,if_neg (JV hn h1 ho),BP]at h4
   exact Zot hp h4
 exact this n k oq (by omega) _ h (by rw[<-QS])
theorem Zqu(h:lZ (s ops.size).env op=some q)(hq:∀a∈q,kZ ops i a=true)(h1:i<=k)(h2:k<=ops.size):lZ (s k).env op=some q:=
 Zta h λa ha hs=>Ek hc (hq a ha) hs h1 h2
theorem Z0e{dz:Nat->Bool}{c:Nat}{t:Nat}:∀{n:Nat},(∀i o,i<n->ops[c+i]?=some o->o.dst=some t->dz (c+i)=false)->ji ops s val dz c n t=look (s c).env t
 |0,_=>rfl
 |n + 1,h=>by
  simp only[ji]
  rw[if_neg]
  ·exact Z0e (λi o hi=>h i o (by omega))
  ·rintro⟨g1,g2⟩
   cases hk:ops[c+n]? with
   |none=>rw[hk]at g2;cases g2
   |some o=>
    rw[hk]at g2
    rw[h n o (by omega) hk g2]at g1;cases g1
theorem Zlj{dz:Nat->Bool}{c d:Nat}{t:Nat}(hq:∀(i:Nat) (o:Oper),c<=i->i<d->ops[i]?=some o->lh G o.op=true)(hd:d<=ops.size):∀{n:Nat},c+n<=d->(∀i o,i<n->ops[c+i]?=some o->o.dst=some t->dz (c+i)=true)->ji ops s val dz c n t=look (s (c+n)).env t
 |0,_,_=>rfl
 |n +1,hn,hl=>by
  have ho:ops[c+n]?=some ops[c+n]:=aU (by omega)
  simp only[ji,ho,aW]
  rw[show c+(n+1)=(c+n)+1 by omega,hc.toChain.Er ho (hq _ _ (by omega) (by omega) ho) t]
  by_cases pH:ops[c+n].dst=some t
  ·rw[if_pos ⟨hl n _ (by omega) ho pH,pH⟩,if_pos pH]
  ·rw[if_neg (λg=>pH g.2),if_neg pH]
   exact Zlj hq hd (by omega) (λi o hi=>hl i o (by omega))
theorem Zd2{dz:Nat->Bool}{c d:Nat}(hq:∀(i:Nat) (o:Oper),c<=i->i<d->ops[i]?=some o->lh G o.op=true)(hd:d<=ops.size):∀{n:Nat},c+n<=d->(∀i,i<n->dz (c+i)=true\/(s (c+i+1)).rows=(s (c+i)).rows)->∀r,kI s dz c n r=(s (c+n)).rows.getD r none
 |0,_,_,r=>rfl
 |n + 1,hn,hl,r=>by
  simp only[kI]
  rw[show c+(n+1)=c+n+1 by omega]
  have hlen:=Kn hc.toChain hq hd (show c<=c+n by omega) (show c+n<=c+n+1 by omega) (by omega)
  have ih:=Zd2 hq hd (n:=n) (by omega) (λi hi=>hl i (by omega)) r
  rcases hl n (by omega)with h|h
  ·simp only[h,true_and]
   split
   ·rfl
   ·rw[ih]
    by_cases h2:r<(s (c+n)).rows.length
    ·exact(Ko hc.toChain hq hd (by omega) (by omega) (by omega) h2).symm
    ·simp only[aV]
     rw[aJ (by omega),aJ (by omega)]
  ·rw[if_neg (by rw[h];omega),ih,h]
theorem Zkz{dz:Nat->Bool}{c d:Nat}(hq:∀(i:Nat) (o:Oper),c<=i->i<d->ops[i]?=some o->lh G o.op=true)(hd:d<=ops.size){r:Nat}(hr:r<(s c).rows.length):∀{n:Nat},c+n<=d->kI s dz c n r=(s c).rows.getD r none
 |0,_=>rfl
 |n+1,hn=>by
  simp only[kI]
  have hlen:=Kn hc.toChain hq hd (show c<=c by omega) (show c<=c+n by omega) (by omega)
  rw[if_neg (by omega)]
  exact Zkz hq hd hr (by omega)
end
structure tq(w0:World)(cx:Ctx)(w:World)(b:Nat)(arr:Array Value)(ty:TypeId):Prop where
 jI:w0.heap.size<=b
 lt:b<w.heap.size
 here:w.heap[b]?=some (.cells arr ty (0,0))
 fq:¬cx.I b
 row:∀r row,cx.R r=some row->¬cx.V r->cx.ρ r≠b
theorem tq.ed{ks:List Nat}{ty:TypeId}(h:tq w0 c w b arr ty)(n:jP ks c w c' w'):tq w0 c' w' b arr ty:=by
 refine⟨h.jI,bM h.lt n.fr.size,(n.fr.heap b h.lt fun⟨r,x,h1,h2,h3⟩=>h.row r x h1 h2 h3).trans h.here,λhb=>?_,λr row hr hv e=>?_⟩
 ·rcases n.fq b hb with g|⟨s,x,_,g1,g2,g3⟩|g
  ·exact h.fq g
  ·exact h.row s x g1 g2 g3
  ·have:=h.lt;omega
 ·rcases n.ov r row hr hv with⟨⟨x,g1⟩,g2,g3⟩|⟨s,x,_,g1,g2,g3⟩|g
  ·exact h.row r x g1 g2 (by rw[<-g3];exact e)
  ·exact h.row s x g1 g2 (by rw[<-g3];exact e)
  ·have:=h.lt;omega
theorem yx(h:o.dst≠some u):(a.put o.dst v).tmps.getD u undef=a.tmps.getD u undef:=by
 cases ho:o.dst with
 |none=>simp[Act.put]
 |some x=>
  have ia:x≠u:=λe=>h (by rw[ho,e])
  simp[Act.put,aZ ia]
theorem xV{dst:Option Tmp}(h:dst=some u)(bg:u<a.tmps.size):(a.put dst v).tmps.getD u undef=v:=by
 subst h
 simp[Act.put,aY,bg]
def MG(P:Program)(ops:Array Oper)(s:Nat->St)(val:Nat->D)(w0:World)(cx:Ctx)(w:World)(a:Act)(i b:Nat):Prop:=
 ∃ o t row arr,ops[i]?=some o/\o.guard=none/\o.op=.alloc t/\Vk P o row arr/\val i=.ptr (s i).rows.length 0 0/\(s (i+1)).rows=(s i).rows++[some row]/\tq w0 cx w b arr row.ty/\
  (∀u,o.dst=some u->a.tmps.getD u undef=.pointer (some ⟨b,0,none⟩))/\∀u,o.dst=some u->∀k o',k≠i->ops[k]?=some o'->o'.dst≠some u
theorem MG.ed{ks:List Nat}(h:MG P ops s val w0 c w a k b)(n:jP ks c w c' w')(oq:i≠k)(ho:ops[i]?=some o):MG P ops s val w0 c' w' (a.put o.dst v) k b:=by
 obtain⟨o',t,row,arr,g1,g2,g3,g4,g5,g6,g7,g8,g9⟩:=h
 exact⟨o',t,row,arr,g1,g2,g3,g4,g5,g6,g7.ed n,λu hu=>by rw[yx (g9 u hu i o oq ho)];exact g8 u hu,g9⟩
theorem Qr1(hm:Mem c w)(o:Obj):jh c w c (w.alloc o):=
 ⟨rfl,aX _,λb hb=>⟨hb,Am w o b (hm.fq b hb).1⟩,λr x hr=>⟨x,hr,rfl,rfl,rfl,rfl,rfl,Iff.rfl,λnv arr ha=>⟨arr,by rw[Am w o _ (hm.lt hr nv)];exact ha,rfl⟩⟩⟩
theorem Qzu(w:World)(o:Obj):(w.alloc o).heap.size=w.heap.size+1:=by show(w.heap.push o).size=_;simp
theorem Ztl(hm:Mem c w)(o:Obj):Mem c (w.alloc o):=
 ⟨λr row hr=>tE (Qr1 hm o) rfl Iff.rfl (λnv=>Am w o _ (hm.lt hr nv)) (hm.row r row hr),hm.inj,(λb hb=>⟨by have:=(hm.fq b hb).1;rw[Qzu];omega,(hm.fq b hb).2⟩),by have:=hm.top;rw[Qzu];omega,hm.j4.mono (Qr1 hm o).I⟩
theorem Zhy(hk:c.R k=none)(row:Row)(b:Nat):jh c w (c.add k row b) w:=by
 refine⟨rfl,aX _,λb hb=>⟨hb,rfl⟩,λr x hr=>?_⟩
 have ia:r≠k:=λe=>by rw[e,hk]at hr;cases hr
 exact⟨x,by simp[Ctx.add,ia,hr],rfl,rfl,rfl,rfl,by simp[Ctx.add,ia],by simp[Ctx.add,ia],λnv arr ha=>⟨arr,ha,rfl⟩⟩
theorem zau(hm:Mem c w)(hk:c.R k=none)(hA:Vk P o row arr)(hl:tq w0 c w b arr row.ty):Mem (c.add k row b) w:=by
 have hg:=Zhy (w:=w) hk row b
 have jI:∀r x,r≠k->(c.add k row b).R r=some x->c.R r=some x/\(c.add k row b).ρ r=c.ρ r/\((c.add k row b).V r↔c.V r):=λr x e h=>⟨by simpa[Ctx.add,e]using h,by simp[Ctx.add,e],by simp[Ctx.add,e]⟩
 refine⟨λr x hr=>?_,λr s x y hr hs v1 v2 he=>?_,λb' hb=>⟨(hm.fq b' hb).1,λr x hr v=>?_⟩,hm.top,hm.j4⟩
 ·by_cases e:r=k
  ·subst e
   simp only[Ctx.add,if_true,Option.some.injEq]at hr
   subst hr
   obtain⟨e,h1,h2,h3,h4⟩:=hA.cells
   refine .inr ⟨by simp[Ctx.add],arr,by simp only[Ctx.add,if_true];exact hl.here,hA.sz,?_⟩
   rw[if_pos hA.box]
   exact⟨e,h1,h2,h3,h4 _ _⟩
  ·obtain⟨g1,g2,g3⟩:=jI r x e hr
   exact tE hg g2 g3 (λ_=>rfl) (hm.row r x g1)
 ·by_cases e1:r=k<;>by_cases e2:s=k
  ·rw[e1,e2]
  ·obtain⟨g1,g2,g3⟩:=jI s y e2 hs
   exfalso
   refine hl.row s y g1 (λe=>v2 (g3.2 e)) ?_
   rw[<-g2,<-he,e1];simp[Ctx.add]
  ·obtain⟨g1,g2,g3⟩:=jI r x e1 hr
   exfalso
   refine hl.row r x g1 (λe=>v1 (g3.2 e)) ?_
   rw[<-g2,he,e2];simp[Ctx.add]
  ·obtain⟨g1,g2,g3⟩:=jI r x e1 hr
   obtain⟨k1,k2,k3⟩:=jI s y e2 hs
   exact hm.inj r s x y g1 k1 (λe=>v1 (g3.2 e)) (λe=>v2 (k3.2 e)) (by rw[<-g2,<-k2];exact he)
 ·by_cases e:r=k
  ·subst e
   simp only[Ctx.add,if_true]
   intro e;subst e
   exact hl.fq hb
  ·obtain⟨g1,g2,g3⟩:=jI r x e hr
   rw[g2];exact(hm.fq b' hb).2 r x g1 (λe=>v (g3.2 e))
def Rg(ops:Array Oper)(env:List (Nat×D))(i:Nat)(o:Oper):Prop:=∃td,o.dst=some td/\kZ ops (i+1) td=true/\pN (look env td)=true
def Rh(ops:Array Oper)(s:Nat->St)(ks:Nat->List Nat)(i c:Nat):Prop:=
 (∃o t a r ii off row ao,ops[i]?=some o/\o.guard=none/\o.op=.load t (.tmp a)/\kZ ops i a=true/\look (s ops.size).env a=.ptr r ii off/\(s i).rows.getD r none=some row/\(s c).rows.getD r none=some ao/\((ao=row/\∀k,i<k->k<c->ks k=[])\/(Rg ops (s ops.size).env i o/\∃L:List (List Nat),ao=L.foldl (λr k=>Row.kill k r) row/\∀kk∈L,∃j,i<j/\j<c/\kk=ks j)))\/
 (∃o q,ops[i]?=some o/\o.guard=none/\lZ (s ops.size).env o.op=some q/\(∀a∈q,kZ ops i a=true)/\((∀k,i<k->k<c->ks k=[])\/JW ops (s ops.size).env i o q))
structure Inv2(P:Program)(G:List bc)(N M:Nat)(ops:Array Oper)(s:Nat->St)(ks:Nat->List Nat)(val:Nat->D)(c0:Ctx)(w0:World)(dz:Nat->Bool)(a:Act)(w:World)(c d:Nat):Prop where
 cd:c<=d
 dn:d<=ops.size
 pre:∀i,i<c->dz i=true\/Rh ops s ks i c
 quiet:∀(i:Nat) (o:Oper),c<=i->i<d->ops[i]?=some o->lh G o.op=true
 wr:∀(o:Oper),ops[d]?=some o->lh G o.op=false
 closed:∀j,dz j=true->∀(o:Oper),ops[j]?=some o->∀e∈o.after,Region.binds .any e=true->dz e.on=true
 size:N<=a.tmps.size
 defers:mf w0.heap.size w a.defers
 gk:c0.base<=w0.heap.size
 ib:∀r row,c0.R r=some row->r<M
 ctx:∃(cx:Ctx) (B:Nat->Nat),Mem cx w/\(∀r,cx.R r=kI s dz c (d-c) r)/\(∀t,(∀k o,k<c->dz k=false->ops[k]?=some o->o.dst≠some t)->(∀k o,d<=k->dz k=true->ops[k]?=some o->o.dst≠some t)->Rep cx w (ji ops s val dz c (d-c) t) (a.tmps.getD t undef))/\Ac c0 w0 cx w/\
  (∀i,d<=i->dz i=true->MG P ops s val w0 cx w a i (B i))/\(∀i j,d<=i->d<=j->dz i=true->dz j=true->B i=B j->i=j)
theorem Vn{t:Nat}(hs:N<=a.tmps.size)(hd:∀u,o.dst=some u->u<N)(h1:o.dst=some t->Rep c' w' d v)(h2:o.dst≠some t->Rep c' w' d (a.tmps.getD t undef)):Rep c' w' d ((a.put o.dst v).tmps.getD t undef):=by
 cases ho:o.dst with
 |none=>simpa[Act.put]using h2 (by rw[ho];simp)
 |some u=>
  by_cases e:u=t
  ·subst e
   have hu:u<a.tmps.size:=bM (hd u ho) hs
   simpa[Act.put,aY,hu]using h1 ho
  ·have:=h2 (by rw[ho];intro h;exact e (Option.some.inj h))
   simpa[Act.put,aZ e]using this
theorem Ri{ks:Nat->List Nat}(hc:Vm P G N M ops s ks val){c d:Nat}
 (hq:∀(i:Nat) (o:Oper),c<=i->i<d->ops[i]?=some o->lh G o.op=true) (hd:d<=ops.size)
 (h:∃(cx:Ctx) (B:Nat->Nat),Mem cx w/\(∀r,cx.R r=(s c).rows.getD r none)/\(∀t,(∀k o,k<c->dz k=false->ops[k]?=some o->o.dst≠some t)->(∀k o,c<=k->dz k=true->ops[k]?=some o->o.dst≠some t)->Rep cx w (look (s c).env t) (a.tmps.getD t undef))/\Ac c0 w0 cx w/\
  (∀i,c<=i->dz i=true->MG P ops s val w0 cx w a i (B i))/\(∀i j,c<=i->c<=j->dz i=true->dz j=true->B i=B j->i=j)):
 ∀ n,c+n<=d->∃(cx:Ctx) (B:Nat->Nat),Mem cx w/\(∀r,cx.R r=kI s dz c n r)/\(∀t,(∀k o,k<c->dz k=false->ops[k]?=some o->o.dst≠some t)->(∀k o,c+n<=k->dz k=true->ops[k]?=some o->o.dst≠some t)->Rep cx w (ji ops s val dz c n t) (a.tmps.getD t undef))/\Ac c0 w0 cx w/\
  (∀i,c+n<=i->dz i=true->MG P ops s val w0 cx w a i (B i))/\(∀i j,c+n<=i->c+n<=j->dz i=true->dz j=true->B i=B j->i=j):=by
 have hlen:∀k l,c<=k->k<=l->l<=d->(s k).rows.length<=(s l).rows.length:=λk l h1 h2 h3=>Kn hc.toChain hq hd h1 h2 h3
 have Rj:∀n,c+n<=d->∀r,(s (c+n)).rows.length<=r->kI s dz c n r=none:=by
  intro n
  induction n with
  |zero=>intro _ r hr;simp only[kI];simp only[aB]at hr;rw[aV,aJ hr];rfl
  |succ n ih=>
   intro hn r hr
   simp only[kI]
   have:=hlen (c+n) (c+n+1) (by omega) (by omega) (by omega)
   rw[show c+(n+1)=c+n+1 by omega]at hr
   rw[if_neg (by omega)]
   exact ih (by omega) r (by omega)
 intro n
 induction n with
 |zero=>intro _;simpa only[kI,ji,aB]using h
 |succ n ih=>
  intro hn
  obtain⟨cx,B,hm,hR,hE,om,nX,oJ⟩:=ih (by omega)
  cases hl:dz (c+n)with
  |false=>
   refine⟨cx,B,hm,λr=>?_,λt ht he=>?_,om,λi hi G8=>nX i (by omega) G8,λi j hi hj=>oJ i j (by omega) (by omega)⟩
   ·simp only[kI,hl,aA,false_and,if_false];exact hR r
   ·simp only[ji,hl,aA,false_and,if_false]
    refine hE t ht λk o hk oM=>he k o ?_ oM
    by_cases e:k=c+n
    ·rw[e,hl]at oM;cases oM
    ·omega
  |true=>
   obtain⟨o,ty,row,arr,g1,g2,g3,g4,g5,g6,g7,g8,g9⟩:=nX (c+n) (aX _) hl
   have hk:cx.R (s (c+n)).rows.length=none:=by rw[hR];exact Rj n (by omega) _ (aX _)
   have hg:=Zhy (w:=w) hk row (B (c+n))
   refine⟨cx.add (s (c+n)).rows.length row (B (c+n)),B,zau hm hk g4 g7,λr=>?_,λt ht he=>?_,⟨om.db.trans hg,om.fr,om.fq,λr x hr hv=>?_,om.xb⟩,λi hi G8=>?_,λi j hi hj=>oJ i j (by omega) (by omega)⟩
   ·simp only[kI,hl,true_and,g6,lA,List.length_singleton]
    by_cases e:r=(s (c+n)).rows.length
    ·subst e
     rw[if_pos ⟨aX _,Nat.lt_succ_self _⟩]
     simp[Ctx.add,aV]
    ·rw[if_neg (by omega)]
     simp only[Ctx.add,if_neg e];exact hR r
   ·simp only[ji,hl,true_and,g1,aW]
    split
    ·rename_i tW
     rw[g8 t tW,g5]
     obtain⟨e,q1,_⟩:=g4.cells
     exact⟨row,(Ctx.jf _ _ _ _).1,by simp[Ctx.add],by rw[q1];simp[ai.l],by simp[(Ctx.jf _ _ _ _).2]⟩
    ·rename_i tW
     refine Ad hg (hE t ht λk o' wc oM eh=>?_)
     by_cases e:k=c+n
     ·subst e;rw[g1]at eh;cases eh;exact tW
     ·exact he k o' (by omega) oM eh
   ·by_cases e:r=(s (c+n)).rows.length
    ·right;right
     rw[e];simp only[Ctx.add,if_true];exact g7.jI
    ·have pT:cx.R r=some x:=by simpa[Ctx.add,e]using hr
     have Eo:¬cx.V r:=by simpa[Ctx.add,e]using hv
     have:=om.ov r x pT Eo
     simpa only[Ctx.add,if_neg e]using this
   ·obtain⟨o',t',ao,iR,f1,f2,f3,f4,f5,f6,f7,f8,f9⟩:=nX i (by omega) G8
    refine⟨o',t',ao,iR,f1,f2,f3,f4,f5,f6,⟨f7.jI,f7.lt,f7.here,f7.fq,λr x hr hv e'=>?_⟩,f8,f9⟩
    by_cases e:r=(s (c+n)).rows.length
    ·rw[e]at e'
     simp only[Ctx.add,if_true]at e'
     have:=oJ (c+n) i (aX _) (by omega) hl G8 e'
     omega
    ·exact f7.row r x (by simpa[Ctx.add,e]using hr) (by simpa[Ctx.add,e]using hv) (by simpa only[Ctx.add,if_neg e]using e')
section
variable {P:Program} {G:List bc} {N M:Nat} {ops:Array Oper} {s:Nat->St} {ks:Nat->List Nat} {val:Nat->D} (hc:Vm P G N M ops s ks val) (me:Rf G ops (s ops.size).env=true)
include hc me
theorem qy {c0 :Ctx}{dz gq:Nat->Bool}{c d i:Nat}(hI:Inv2 P G N M ops s ks val c0 w0 dz a w c d)(ho:ops[i]? =some o)(h0:dz i=false)(h1:gq i=true)(h2: ∀k,k≠i->gq k=dz k)
    (Ng: ∀e∈o.after,Region.binds .any e=true->dz e.on=true) {K:Act->World->Prop} {Q:Exit->Act->World->Prop} (hK: ∀a' w' c' d',Inv2 P G N M ops s ks val c0 w0 gq a' w' c' d'->K a' w'):wpOp P ops Q i K a w:=by
  have bg:=(Array.getElem?_eq_some_iff.1 ho).1
  have rr: ∀k,((Region.before ops).getD i 0).testBit k=true->dz k=true:=λk hk=>
    Sz (ar:=λk=>dz k=true) hI.closed (λo' jv=>by rw[ho]at jv;cases jv;exact Ng) hk
  have oj: ∀j k,dz j=true->((Region.before ops).getD j 0).testBit k=true->dz k=true:=λj k hj hk=>
    Sz (ar:=λk=>dz k=true) hI.closed (hI.closed j hj) hk
  have tX: ∀j,gq j=true-> ∀(o:Oper),ops[j]? =some o-> ∀e∈o.after,Region.binds .any e=true->gq e.on=true:=by
    intro j hj o' jv e he hb
    have ia:dz e.on=true:=by
      by_cases e':j=i
      . subst e';rw[ho]at jv;cases jv;exact Ng e he hb
      . rw[h2 j e']at hj;exact hI.closed j hj o' jv e he hb
    rw[h2 e.on (λe'=>by rw[e',h0]at ia;cases ia)]
    exact ia
  have DE: ∀{x:Oper} {t:TypeId} {y:Operand},x.op= .load t y->lh G x.op=true:=λh=>by rw[h];rfl
  have hpu: ∀{x:Oper} {env:List (Nat×D)} {q:List Nat},lZ env x.op=some q->lh G x.op=true:=λh=>by
    unfold lh;rw[(Z8q (G:=G) h).1];rfl
  have G6: ∀{x:Oper} {t:TypeId},x.op= .alloc t->lh G x.op=true:=λh=>by rw[h];rfl
  obtain⟨cx,B,hm,hR,hE,om,nX,oJ⟩:=hI.ctx
  have Fu:dz d=false:=by
    cases hl:dz d with
    |false=>rfl
    | true=>
      obtain⟨o',t,_,_,g1,_,g3,_⟩:=nX d (aX _) hl
      have:=hI.wr _ g1
      rw[G6 g3]at this;cases this
  have hid:i<=d\/(d<i/\(∃t,o.guard=none/\o.op= .alloc t)/\ ∀u,o.dst=some u-> ∀k o',k≠i->ops[k]? =some o'->o'.dst≠some u):=by
    by_cases h:i<=d
    . exact .inl h
    . right
      have BE:ops[d]? =some ops[d]:=aU (by omega)
      have:=(FM me (show d<i by omega) BE ho).2
      rcases this with⟨hq,_⟩|hb|hb|hb
      . rw[hI.wr _ BE]at hq;cases hq
      . have:=rr d hb
        rw[Fu]at this;cases this
      . rcases Rd BE ho hb with⟨t,b,t',b',z,r,r',ii,off,mj,iS,g1,g2,g3,_⟩|⟨q,g1,g2,g3,_⟩|⟨q,g1,g3,_⟩|⟨_,_,_,_,_,_,_,_,_,g1,g2,g3,_⟩|⟨_,_,_,_,_,_,_,_,g1,g2,g3,_⟩
        . have:=DE g3
          rw[hI.wr _ BE]at this;cases this
        . have:=hpu g3
          rw[hI.wr _ BE]at this;cases this
        . have:=hpu (Vl (env:=[]) g3)
          rw[hI.wr _ BE]at this;cases this
        . have:=DE g3
          rw[hI.wr _ BE]at this;cases this
        . have:=DE g3
          rw[hI.wr _ BE]at this;cases this
      . exact⟨by omega,hb⟩
  have Wo:=hI.cd
  have HV:=hI.dn
  have jn:cx.base<=w.heap.size:=by rw[om.db.base];exact Nat.le_trans hI.gk om.fr.size
  have seen: ∀k o' t,k<i->ops[k]? =some o'->o'.dst=some t->t∈o.looksAt ops->dz k=true:=by
    intro k o' t hk jv hd ht
    rcases(FM me hk jv ho).1 with tY|hb
    . exact((Gd tY).2.1 hd ht).elim
    . exact rr _ hb
  have Dl: ∀k o' t,d<=k->dz k=true->ops[k]? =some o'->t∈o.looksAt ops->i<=d->o'.dst≠some t:=by
    intro k o' t hk hl jv ht hid hd
    have oq:i<k:=by
      by_cases e:k=i
      . rw[e,h0]at hl;cases hl
      . omega
    rcases(FM me oq ho jv).1 with tY|hb
    . exact(Gd tY).2.2 hd ht
    . have:=oj _ _ hl hb
      rw[h0]at this;cases this
  rcases hid with hid|⟨hdi,⟨t0,hg0,ho0⟩,Ks⟩
  rotate_left
  ·
    obtain⟨hks,row,arr,hA,hv,dj⟩:=(hc.mH i o ho).al t0 hg0 ho0
    unfold wpOp
    simp only[ho]
    have hw:Region.wanted o (yielded ops a.tmps)=true:=by simp [Region.wanted,hg0]
    rw[if_pos hw]
    refine Gm (hA.run a.eval w) ?_
    have hmn:=Ztl hm (.cells arr row.ty)
    have wv:=Qr1 hm (.cells arr row.ty)
    have hn:jP [] cx w cx (w.alloc (.cells arr row.ty)):=lO.toK ⟨hmn,wv,Fr.alloc _ w _,λb hb=> .inl hb,λr row hr v=> .inl ⟨⟨row,hr⟩,v,rfl⟩⟩
    refine hK _ _ c d ⟨hI.cd,hI.dn,λk hk=>by rw[h2 k (by omega)];exact hI.pre k hk,hI.quiet,hI.wr,tX,?_,?_,hI.gk,hI.ib,cx,λk=>if k=i then w.heap.size else B k,hmn,λr=> ?_,λt ht he=> ?_,om.step (ks:=[]) (λk hk=>by simp [cw]at hk) hI.ib hn,λk hdk hl=> ?_,λk j hk hj oM HD e=> ?_⟩
    . cases hd:o.dst<;>simp [Act.put]<;>exact hI.size
    . first|exact mf.put (hI.defers.step hm hn.fr)|exact mf.put (hI.defers.step hm hn.toW.fr)
    . rw[hR,SF (λk hk=>h2 _ (by omega))]
    . rw[SE (λk hk=>h2 _ (by omega))]
      refine Vn hI.size (λu=>hc.dst i o u ho) (λhd=>(he i o (by omega) h1 ho hd).elim) (λhd=> ?_)
      exact Ad wv (hE t (λk o' hk hl eh=>ht k o' hk (by rw[h2 k (by omega)];exact hl) eh) (λk o' hk hl eh=>he k o' hk (by rw[h2 k (λe'=>by rw[e',h0]at hl;cases hl)];exact hl) eh))
    . by_cases e:k=i
      . subst e
        simp only[if_true]
        exact⟨o,t0,row,arr,ho,hg0,ho0,hA,hv,dj,⟨om.fr.size,by rw[Qzu];omega,UQ w _,λhb=>by have:=(hm.fq _ hb).1;omega,λr ao hr Eo e=>by have:=hm.lt hr Eo;omega⟩,λu hu=>xV hu (bM (hc.dst k o u ho hu) hI.size),Ks⟩
      . simp only[if_neg e]
        rw[h2 k e]at hl
        exact(nX k hdk hl).ed hn (Ne.symm e) ho
    . have key: ∀k,d<=k->gq k=true->k≠i->B k<w.heap.size:=λk hk oM e=>by
        rw[h2 k e]at oM
        obtain⟨_,_,_,_,_,_,_,_,_,_,g7,_⟩:=nX k hk oM
        exact g7.lt
      by_cases e1:k=i<;>by_cases e2:j=i
      . rw[e1,e2]
      . simp only[if_pos e1,if_neg e2]at e
        have:=key j hj HD e2;omega
      . simp only[if_neg e1,if_pos e2]at e
        have:=key k hk oM e1;omega
      . simp only[if_neg e1,if_neg e2]at e
        exact oJ k j hk hj (by rw[<-h2 k e1];exact oM) (by rw[<-h2 j e2];exact HD) e
  by_cases pU:c<=i
  . by_cases e:i=d
    ·
      subst e
      have iY: ∀k o',c<=k->k<i->ops[k]? =some o'->dz k=true\/MF G ops (s ops.size).env k i=true:=λk o' nq rQ eh=>by
        rcases(FM me rQ eh ho).2 with⟨_,hq⟩|hb|hb|⟨⟨t4,_,g4⟩,_⟩
        . rw[hI.wr _ ho]at hq;cases hq
        . exact .inl (rr _ hb)
        . exact .inr hb
        . have:=hI.wr _ ho
          rw[G6 g4]at this;cases this
      have hnr: ∀k o',c<=k->k<i->ops[k]? =some o'->MF G ops (s ops.size).env k i=true->(s (k+1)).rows=(s k).rows:=λk o' nq rQ eh hb=>by
        rcases Rd eh ho hb with⟨t,b,t',b',z,r,r',ii,off,mj,iS,g1,g2,g3,g4,g5,g6,g7,g8,g9⟩|⟨q,g1,g2,g3,g4,_⟩|⟨q,g1,g3,_⟩|⟨t,b,r,ii,off,_,_,_,_,g1,g2,g3,g5,g7,_⟩|⟨t,b,r,ii,off,_,_,_,g1,g2,g3,g5,g7,_⟩
        . exact((hc.mH k o' eh).ld t b r ii off g1 g3 (Ej hc g5 g7 (aX _) (by omega))).2.1
        . exact((hc.mH k o' eh).pu q g1 (Zqu hc g3 g4 (aX _) (by omega))).2.1
        . exact((hc.mH k o' eh).pu q g1 (Vl g3)).2.1
        . exact((hc.mH k o' eh).ld t b r ii off g1 g3 (Ej hc g5 g7 (aX _) (by omega))).2.1
        . exact((hc.mH k o' eh).ld t b r ii off g1 g3 (Ej hc g5 g7 (aX _) (by omega))).2.1
      have dj: ∀r,cx.R r=(s i).rows.getD r none:=λr=>by
        rw[hR,Zd2 hc hI.quiet HV (by omega) (λk hk=>by
          have eh:ops[c+k]? =some ops[c+k]:=aU (by omega)
          rcases iY (c+k) _ (by omega) (by omega) eh with h|h
          . exact .inl h
          . exact .inr (hnr (c+k) _ (by omega) (by omega) eh h)),show c+(i-c)=i by omega]
      have tk: ∀t,(∀k o',k<i->dz k=false->ops[k]? =some o'->o'.dst≠some t)->(∀k o',i<=k->dz k=true->ops[k]? =some o'->o'.dst≠some t)->Rep cx w (look (s i).env t) (a.tmps.getD t undef):=λt ht he=>by
        have:=hE t (λk o' hk=>ht k o' (by omega)) he
        rwa [Zlj hc hI.quiet HV (by omega) (λk o' hk eh hd=>by
          cases hl:dz (c+k) with
          |true=>rfl
          |false=>exact(ht _ _ (by omega) hl eh hd).elim),show c+(i-c)=i by omega]at this
      refine qau (M:=M) ho hm jn dj (λt ht=>tk t (λk o' hk hl eh hd=>by rw[seen k o' t hk eh hd ht]at hl;cases hl) (λk o' hk hl eh=>Dl k o' t hk hl eh ht (aX _))) (hc.op i o ho) λv w' c' hM hn j8 hv=> ?_
      obtain⟨d',g1,g2,g3,g4⟩:=Nf G ops _ (i+1) rfl (by omega)
      have ed: ∀k o' t b r ii off row,k<i->ops[k]? =some o'->dz k=false->o'.guard=none->o'.op= .load t (.tmp b)->kZ ops k b=true->look (s ops.size).env b= .ptr r ii off->(s i).rows.getD r none=some row->(ks i=[]/\(s (i+1)).rows.getD r none=some row)\/(Rg ops (s ops.size).env k o'/\(s (i+1)).rows.getD r none=some (row.kill (ks i))):=by
        intro k o' t b r ii off row hk eh hl q1 q2 q3 q4 q5
        rcases(FM me hk eh ho).2 with⟨_,hq⟩|hb|hb|⟨⟨t4,_,g4⟩,_⟩
        rotate_right
        . have:=hI.wr _ ho
          rw[G6 g4]at this;cases this
        . rw[hI.wr _ ho]at hq;cases hq
        . rw[rr _ hb]at hl;cases hl
        . rcases Rd eh ho hb with⟨t1,b1,t',b',z,r1,r',Rk,Dm,mj,iS,p1,p2,p3,p4,p5,p6,p7,p8,p9⟩|⟨q,p1,p2,p3,_⟩|⟨q,p1,p3,_⟩|⟨t1,b1,r1,Rk,Dm,args,dv,x0,l0,p1,p2,p3,p4,p5,p6,p7,p8,p9⟩|⟨t1,b1,r1,Rk,Dm,args,dv,td,p1,p2,p3,p4,p5,p6,p7,p8,p9⟩
          . rw[q2]at p3;cases p3
            rw[q4]at p7;cases p7
            obtain⟨f1,f2⟩:=(hc.mH i o ho).st t' b' z r' mj iS p2 p4 (Ej hc p6 p8 (by omega) (by omega))
            exact .inl ⟨f1,by rw[f2 r p9];exact q5⟩
          . rw[q2]at p3;simp [lZ,pO,cq,q4]at p3
          . rw[q2]at p3;cases p3
          . obtain⟨f1,f2⟩:=(hc.mH i o ho).ap args dv x0 l0 p2 p6 p7 (by rw[Ek hc p8 (Ze1 p9) (by omega) (by omega)];exact p9)
            exact .inl ⟨f1,f2 r row q5⟩
          . refine .inr ⟨⟨td,p7,p8,p9⟩,(hc.mH i o ho).ap2 args dv p2 p6 r row q5 ?_⟩
            have e1:=Ej hc q3 q4 (show k<=i by omega) (by omega)
            have e2:=Ej hc q3 q4 (show k<=i+1 by omega) (by omega)
            rw[hc.env i o b ho,if_neg (JV q3 (by omega) ho),BP,e1]at e2
            cases hb:cw r (ks i) with
            |false=>rfl
            |true=>simp [D.gy,D.kill,D.ez,hb]at e2
      have HE: ∀k o' q,k<i->ops[k]? =some o'->dz k=false->lZ (s ops.size).env o'.op=some q->ks i=[]\/JW ops (s ops.size).env k o' q:=by
        intro k o' q hk eh hl hq
        rcases(FM me hk eh ho).2 with⟨_,FL⟩|hb|hb|⟨⟨t4,_,g4⟩,_⟩
        rotate_right
        . have:=hI.wr _ ho
          rw[G6 g4]at this;cases this
        . rw[hI.wr _ ho]at FL;cases FL
        . rw[rr _ hb]at hl;cases hl
        . rcases Rd eh ho hb with⟨t1,b1,t',b',z,r1,r',Rk,Dm,mj,iS,p1,p2,p3,p4,p5,p6,p7,p8⟩|⟨q,p1,p2,p3,p4,p5⟩|⟨q',p1,p3,p4⟩|⟨t1,b1,r1,Rk,Dm,args,dv,x0,l0,p1,p2,p3,p4,p5,_⟩|⟨t1,b1,r1,Rk,Dm,args,dv,td,p1,p2,p3,p4,p5,_⟩
          rotate_right
          . rw[p3]at hq;simp [lZ,pO,cq,p5]at hq
          rotate_right
          . rw[p3]at hq;simp [lZ,pO,cq,p5]at hq
          . rw[p3]at hq;simp [lZ,pO,cq,p7]at hq
          . rcases p5 with⟨t',b',z,r',mj,iS,p5,p6,p7⟩|⟨f,args,dv,p5,p6⟩
            . exact .inl ((hc.mH i o ho).st t' b' z r' mj iS p2 p5 (Ej hc p6 p7 (by omega) (by omega))).1
            . exact .inl ((hc.mH i o ho).cl f args dv p2 p5 p6)
          . rw[Vl p3]at hq;cases hq
            exact .inr p4
      have FN: ∀k,c<=k->k<i->ks k=[]:=λk nq rQ=>by
        have eh:ops[k]? =some ops[k]:=aU (by omega)
        exact(We (hc.op k _ eh) (hI.quiet k _ nq rQ eh)).1
      have Rl: ∀t,(∀k o,k<i+1->gq k=false->ops[k]? =some o->o.dst≠some t)->(∀k o,i+1<=k->gq k=true->ops[k]? =some o->o.dst≠some t)->Rep c' w' (look (s (i+1)).env t) ((a.put o.dst v).tmps.getD t undef):=by
        intro t ht he
        rw[hc.env i o t ho]
        refine Vn hI.size (λu=>hc.dst i o u ho) (λhd=>by rw[if_pos hd];exact hv) (λhd=> ?_)
        rw[if_neg hd,BP]
        refine Ad hn.db (Wz (tk t (λk o' hk hl eh=> ?_) (λk o' hk hl eh=> ?_)))
        . exact ht k o' (by omega) (by rw[h2 k (by omega)];exact hl) eh
        . have ia:k≠i:=λe'=>by rw[e',h0]at hl;cases hl
          exact he k o' (by omega) (by rw[h2 k ia];exact hl) eh
      refine hK _ w' (i+1) d' ⟨g1,g2,λk hk=> ?_,g3,g4,tX,?_,?_,hI.gk,hI.ib,by
        have:=Ri hc (c0:=c0) (w0:=w0) (w:=w') (dz:=gq) (a:=a.put o.dst v) (c:=i+1) (d:=d') g3 g2 ⟨c',B,hn.mem,j8,Rl,om.step hM hI.ib hn,λk hk oM=>(nX k (by omega) (by rw[<-h2 k (by omega)];exact oM)).ed hn (by omega) ho,λk j hk hj oM HD e=>oJ k j (by omega) (by omega) (by rw[<-h2 k (by omega)];exact oM) (by rw[<-h2 j (by omega)];exact HD) e⟩ (d'-(i+1)) (by omega)
        rwa [show i+1+(d'-(i+1))=d' by omega]at this⟩
      . by_cases e' : k=i
        . rw[e'];exact .inl h1
        . rw [h2 k e']
          cases hl:dz k with
          |true=>exact .inl rfl
          | false =>
            right
            by_cases Wh:k<c
            . rcases hI.pre k Wh with h|h
              . rw[hl]at h;cases h
              . rcases h with h|⟨o',q,q1,q2,q3,q4,q8⟩
                rotate_left
                . rcases q8 with q8|q8
                  rotate_left
                  . exact .inr ⟨o',q,q1,q2,q3,q4, .inr q8⟩
                  rcases HE k o' q (by omega) q1 hl q3 with f1|f1
                  rotate_left
                  . exact .inr ⟨o',q,q1,q2,q3,q4, .inr f1⟩
                  refine .inr ⟨o',q,q1,q2,q3,q4, .inl λk' nq rQ=> ?_⟩
                  by_cases Ku:k'<c
                  . exact q8 k' nq Ku
                  . by_cases DU:k'<i
                    . exact FN k' (by omega) DU
                    . rw[show k'=i by omega];exact f1
                obtain⟨o',t,b,r,ii,off,row,ao,q1,q2,q3,q4,q5,q6,q7,q8⟩:=h
                have rJ:r<(s c).rows.length:=by
                  by_cases hh:r<(s c).rows.length
                  . exact hh
                  . simp only[aV,aJ (show(s c).rows.length<=r by omega)]at q7;cases q7
                have iL:=Ko hc.toChain hI.quiet HV (aX c) pU (aX i) rJ
                rcases ed k o' t b r ii off ao (by omega) q1 hl q2 q3 q4 q5 (by rw[iL];exact q7) with⟨f1,f2⟩|⟨f1,f2⟩
                . rcases q8 with⟨e8,q8⟩|q8
                  . refine .inl ⟨o',t,b,r,ii,off,row,ao,q1,q2,q3,q4,q5,q6,f2, .inl ⟨e8,λk' nq rQ=> ?_⟩⟩
                    by_cases Ku:k'<c
                    . exact q8 k' nq Ku
                    . by_cases DU:k'<i
                      . exact FN k' (by omega) DU
                      . rw[show k'=i by omega];exact f1
                  . exact .inl ⟨o',t,b,r,ii,off,row,ao,q1,q2,q3,q4,q5,q6,f2, .inr ⟨q8.1,q8.2.elim λL hL=>⟨L,hL.1,λkk hk=>(hL.2 kk hk).elim λj hj=>⟨j,hj.1,by omega,hj.2.2⟩⟩⟩⟩
                . refine .inl ⟨o',t,b,r,ii,off,row,_,q1,q2,q3,q4,q5,q6,f2, .inr ⟨f1,?_⟩⟩
                  rcases q8 with⟨e8,_⟩|⟨_,L,e8,hL⟩
                  . exact⟨[ks i],by rw[e8];rfl,λkk hk=>⟨i,by omega,by omega,List.mem_singleton.1 hk⟩⟩
                  . refine⟨L++[ks i],by rw[List.foldl_append,<-e8];rfl,λkk hk=> ?_⟩
                    rcases List.mem_append.1 hk with hk|hk
                    . obtain⟨j,j1,j2,j3⟩:=hL kk hk
                      exact⟨j,j1,by omega,j3⟩
                    . exact⟨i,by omega,by omega,List.mem_singleton.1 hk⟩
            . have eh:ops[k]? =some ops[k]:=aU (by omega)
              rcases iY k _ (by omega) (by omega) eh with h|h
              . rw[hl]at h;cases h
              . have go: ∀t b r ii off,ops[k].guard=none->ops[k].op= .load t (.tmp b)->kZ ops k b=true->look (s ops.size).env b= .ptr r ii off->Rh ops s ks k (i+1):=by
                  intro t b r ii off p1 p3 p5 p7
                  obtain⟨row,dc⟩:=((hc.mH k _ eh).ld t b r ii off p1 p3 (Ej hc p5 p7 (aX _) (by omega))).2.2.1
                  have rJ:r<(s k).rows.length:=by
                    by_cases hh:r<(s k).rows.length
                    . exact hh
                    . simp only[aV,aJ (show(s k).rows.length<=r by omega)]at dc;cases dc
                  have iL:=Ko hc.toChain hI.quiet HV (show c<=k by omega) (show k<=i by omega) (aX i) rJ
                  rcases ed k _ t b r ii off row (by omega) eh hl p1 p3 p5 p7 (by rw[iL];exact dc) with⟨f1,f2⟩|⟨f1,f2⟩
                  rotate_left
                  . exact .inl ⟨_,t,b,r,ii,off,row,_,eh,p1,p3,p5,p7,dc,f2, .inr ⟨f1,[ks i],rfl,λkk hk=>⟨i,by omega,by omega,List.mem_singleton.1 hk⟩⟩⟩
                  refine .inl ⟨_,t,b,r,ii,off,row,row,eh,p1,p3,p5,p7,dc,f2, .inl ⟨rfl,λk' nq rQ=> ?_⟩⟩
                  by_cases DU:k'<i
                  . exact FN k' (by omega) DU
                  . rw[show k'=i by omega];exact f1
                rcases Rd eh ho h with⟨t,b,t',b',z,r,r',ii,off,mj,iS,p1,p2,p3,p4,p5,p6,p7,p8,p9⟩|⟨q,p1,p2,p3,p4,p5⟩|⟨q,p1,p3,p4⟩|⟨t,b,r,ii,off,_,_,_,_,p1,p2,p3,p5,p7,_⟩|⟨t,b,r,ii,off,_,_,_,p1,p2,p3,p5,p7,_⟩
                rotate_right
                . exact go t b r ii off p1 p3 p5 p7
                rotate_left 2
                rotate_left
                . exact go t b r ii off p1 p3 p5 p7
                rotate_right
                . exact .inr ⟨_,q,eh,p1,Vl p3,λa ha=>(p4.1 a ha).1, .inr p4⟩
                rotate_left
                . rcases HE k _ q (by omega) eh hl p3 with f1|f1
                  rotate_left
                  . exact .inr ⟨_,q,eh,p1,p3,p4, .inr f1⟩
                  refine .inr ⟨_,q,eh,p1,p3,p4, .inl λk' nq rQ=> ?_⟩
                  by_cases DU:k'<i
                  . exact FN k' (by omega) DU
                  . rw[show k'=i by omega];exact f1
                exact go t b r ii off p1 p3 p5 p7
      . cases hd:o.dst<;>simp [Act.put]<;>exact hI.size
      . first|exact mf.put (hI.defers.step hm hn.fr)|exact mf.put (hI.defers.step hm hn.toW.fr)
    ·
      have HT:i<d:=by omega
      have hq:=hI.quiet i o pU HT ho
      have Nh:=Wd hq
      have Ni: ∀t∈o.looksAt ops,Rep cx w (look (s i).env t) (a.tmps.getD t undef):=λt ht=>by
        have HU : ∀n,c+n<=d->ji ops s val dz c n t=if c+n<=i then look (s (c+n)).env t else look (s i).env t:=by
          intro n
          induction n with
          |zero=>intro _;simp only[ji,aB];rw[if_pos pU]
          | succ n ih=>
            intro hn
            obtain⟨ok,eh⟩: ∃ok,ops[c+n]? =some ok:=⟨_,aU (show c+n<ops.size by omega)⟩
            have ih:=ih (by omega)
            simp only[ji,eh,aW]
            by_cases hk:c+n<i
            . have hA:c+(n+1)<=i:=by omega
              have SG:c+n<=i:=by omega
              rw[if_pos hA,show c+(n+1)=c+n+1 by omega,hc.toChain.Er eh (hI.quiet _ _ (by omega) (by omega) eh) t]
              rw[if_pos SG]at ih
              by_cases hd:ok.dst=some t
              . rw[if_pos ⟨seen _ _ t hk eh hd ht,hd⟩,if_pos hd]
              . rw[if_neg (λg=>hd g.2),if_neg hd,ih]
            . have HW: ¬(dz (c+n)=true/\ok.dst=some t):=by
                rintro⟨g1,g2⟩
                by_cases e':c+n=i
                . rw[e',h0]at g1;cases g1
                . have oq:i<c+n:=by omega
                  rcases(FM me oq ho eh).1 with tY|hb
                  . exact(Gd tY).2.2 g2 ht
                  . have:=oj _ _ g1 hb
                    rw[h0]at this;cases this
              have hA: ¬c+(n+1)<=i:=by omega
              rw[if_neg HW,ih,if_neg hA]
              split
              . rw[show c+n=i by omega]
              . rfl
        have:=hE t (λk o' hk hl eh hd=>by rw[seen k o' t (by omega) eh hd ht]at hl;cases hl) (λk o' hk hl eh=>Dl k o' t hk hl eh ht hid)
        rw[HU (d-c) (by omega),if_neg (by omega)]at this
        exact this
      have hlen: ∀k l,c<=k->k<=l->l<=d->(s k).rows.length<=(s l).rows.length:=λk l h1 h2 h3=>Kn hc.toChain hI.quiet hI.dn h1 h2 h3
      have iF: ∀k l,c<=k->k<=l->l<=d-> ∀r,r<(s k).rows.length->(s l).rows.getD r none=(s k).rows.getD r none:=λk l h1 h2 h3 r hr=>Ko hc.toChain hI.quiet hI.dn h1 h2 h3 hr
      have BF: ∀n,c+n<=d-> ∀r,r<(s i).rows.length-> ∀row,kI s dz c n r=some row->(s i).rows.getD r none=some row:=by
        intro n
        induction n with
        | zero=>
          intro _ r hr row h
          simp only[kI]at h
          by_cases Wi:r<(s c).rows.length
          . rw[iF c i (aX _) pU (by omega) r Wi];exact h
          . simp only[aV,aJ (show(s c).rows.length<=r by omega)]at h;cases h
        | succ n ih=>
          intro hn r hr row h
          simp only[kI]at h
          split at h
          . rename_i g
            obtain⟨g1,g2,g3⟩:=g
            have Wj:c+n<i:=by
              by_cases mV:c+n<i
              . exact mV
              . by_cases e':c+n=i
                . rw[e',h0]at g1;cases g1
                . have:=hlen i (c+n) pU (by omega) (by omega);omega
            rw[iF (c+n+1) i (by omega) (by omega) (by omega) r g3];exact h
          . exact ih (by omega) r hr row h
      have BG: ∀n,c+n<=d-> ∀r,(s i).rows.length<=r->r<(s (i+1)).rows.length->kI s dz c n r=none:=by
        intro n
        induction n with
        | zero=>
          intro _ r h1 h2
          have:=hlen c i (aX _) pU (by omega)
          simp only[kI,aV,aJ (show(s c).rows.length<=r by omega),Option.getD_none]
        | succ n ih=>
          intro hn r h1 h2
          simp only[kI]
          rw[if_neg]
          . exact ih (by omega) r h1 h2
          . rintro⟨g1,g2,g3⟩
            by_cases e':c+n=i
            . rw[e',h0]at g1;cases g1
            . by_cases mV:c+n<i
              . have:=hlen (c+n+1) i (by omega) (by omega) (by omega);omega
              . have:=hlen (i+1) (c+n) (by omega) (by omega) (by omega);omega
      have pq:mn cx (s i).rows:=λr row ao g1 g2=>by
        have hr:r<(s i).rows.length:=by
          by_cases h:r<(s i).rows.length
          . exact h
          . simp only[aV,aJ (show(s i).rows.length<=r by omega)]at g2;cases g2
        rw[hR]at g1
        have:=BF (d-c) (by omega) r hr row g1
        rw[this]at g2;exact Option.some.inj g2
      have fin: ∀v w' c',Km cx w (s i).rows (s (i+1)).rows c' w'->Rep c' w' (val i) v->K (a.put o.dst v) w':=by
        intro v w' c' hn hv
        refine hK _ w' c d ⟨hI.cd,hI.dn,λk hk=>by rw[h2 k (by omega)];exact hI.pre k hk,hI.quiet,hI.wr,tX,?_,?_,hI.gk,hI.ib,c',B,hn.mem,λr=> ?_,λt ht he=> ?_,om.step (ks:=[]) (λk hk=>by simp [cw]at hk) hI.ib hn.toW.toK,λk hk oM=>(nX k hk (by rw[<-h2 k (by omega)];exact oM)).ed hn.toW.toK (by omega) ho,λk j hk hj oM HD e=>oJ k j hk hj (by rw[<-h2 k (by omega)];exact oM) (by rw[<-h2 j (by omega)];exact HD) e⟩
        . cases hd:o.dst<;>simp [Act.put]<;>exact hI.size
        . first|exact mf.put (hI.defers.step hm hn.fr)|exact mf.put (hI.defers.step hm hn.toW.fr)
        . rw[hn.rows,hR,Wg pU h0 h1 h2 (d:=d) (λk nq rQ=>hlen (i+1) k (by omega) (by omega) (by omega)) (by omega) (by omega)]
        . have hl: ∀k o',i<k->dz k=true->ops[k]? =some o'->o'.dst=some t->o.dst=some t->False:=by
            intro k o' oq hk eh M7 Wk
            rcases(FM me oq ho eh).1 with tY|hb
            . exact(Gd tY).1 Wk M7
            . have:=oj _ _ hk hb
              rw[h0]at this;cases this
          rw[Wf ho pU h0 h1 h2 hl (by omega)]
          have hold:=Ad hn.db (hE t (λk o' hk hl eh=>ht k o' hk (by rw[h2 k (by omega)];exact hl) eh) (λk o' hk hl eh=>he k o' hk (by rw[h2 k (by omega)];exact hl) eh))
          refine Vn hI.size (λu=>hc.dst i o u ho) (λhd=>by rw[if_pos hd];exact hv) (λhd=>by rw[if_neg hd];exact hold)
      have skip:val i= .ee []->(s (i+1)).rows=(s i).rows->K (a.put o.dst undef) w:=λe1 e2=>
        fin undef w cx ⟨hm,jh.refl _ _,Fr.refl _ _,λb hb=> .inl hb,λr=>by rw[e2,if_neg (by omega)],λ_ _=>⟨rfl,Iff.rfl⟩,λr g1 g2=>by rw[e2]at g2;omega⟩ (by rw[e1];exact SH _ _)
      have run:pS P G M o (cq (s i).env) (s i).rows (ks i) (val i) (s (i+1)).rows->o.nu P a w K Q:=λhX=>by
        unfold pS at hX
        rw[Nh]at hX
        refine hX.2.2 cx w a hm jn pq (λr g1 g2=>by rw[hR];exact BG (d-c) (by omega) r g1 g2) (λx hx=> ?_) K Q fin
        cases x with
        | tmp t=>
          refine Ni t ?_
          unfold Oper.looksAt
          exact eS _ (List.mem_filterMap.2 ⟨.tmp t,by simpa using hx,rfl⟩)
        | const v=>
          simp only[cq,Act.eval]
          cases hv:Ge v with
          |none=>trivial
          |some d=>exact Nj hv cx w
        |global g=>trivial
        |func f=>exact Kp f
      have hG:=hc.op i o ho
      unfold wpOp
      simp only[ho]
      unfold nK at hG
      cases hg:o.guard with
      | none=>
        simp only[hg]at hG
        have hw:Region.wanted o (yielded ops a.tmps)=true:=by simp [Region.wanted,hg]
        rw[if_pos hw]
        exact run hG
      | some jw=>
        obtain⟨j,want⟩:=jw
        simp only[hg]at hG
        obtain⟨g,g2,hG⟩:=hG
        have hr:=Ni g (by
          unfold Oper.looksAt
          refine eX _ ?_
          simp only[hg,g2];simp)
        rcases hG with⟨b,g3,g4⟩|⟨g3,_,e1,e2⟩
        rotate_left
        . rw[g3]at hr
          rw[if_neg (by rw[SI (o:=o) hg g2 hr];simp)]
          exact skip e1 e2
        rw[g3]at hr
        have hw:=SJ (o:=o) hg g2 hr
        by_cases e':b=want
        . rw[if_pos e']at g4
          rw[if_pos (by rw[hw];simpa using e')]
          exact run g4
        . rw[if_neg e']at g4
          rw[if_neg (by rw[hw];simpa using e')]
          exact skip g4.2.1 g4.2.2
  ·
    have Wa:i<c:=by omega
    rcases hI.pre i Wa with h|h
    . rw[h0]at h;cases h
    have Rm: ∀b,kZ ops i b=true->(∀k,i<k->k<c->ks k=[])->ks i=[]->look (s c).env b=look (s i).env b:=by
      intro b hb q8 q9
      have: ∀k,i<=k->k<=c->look (s k).env b=look (s i).env b:=by
        intro k
        induction k with
        |zero=>intro h1 _;rw[show i=0 by omega]
        | succ k ih=>
          intro h1 h2
          by_cases e':i=k+1
          . rw[e']
          . have eh:ops[k]? =some ops[k]:=aU (by omega)
            rw[hc.env k _ b eh,if_neg (JV hb (by omega) eh)]
            by_cases e2:k=i
            . rw[e2,q9,oQ]
            . rw[q8 k (by omega) (by omega),oQ];exact ih (by omega) (by omega)
      exact this c (by omega) (aX _)
    have oG: ∀b,kZ ops i b=true->b∈o.looksAt ops->Rep cx w (look (s c).env b) (a.tmps.getD b undef):=λb hnb ZL=>by
      have:=hE b (λk o' hk hl eh hd=>by
        by_cases Wj:k<i
        . rw[seen k o' b Wj eh hd ZL]at hl;cases hl
        . exact JV hnb (by omega) eh hd) (λk o' hk hl eh=>Dl k o' b hk hl eh ZL hid)
      rwa [Z0e hc (λk o' hk eh hd=>(JV hnb (by omega) eh hd).elim)]at this
    obtain ⟨q2,q8,hN,Dg⟩:o.guard=none/\((∀k,i<k->k<c->ks k=[])\/ ∀t,o.dst=some t->kZ ops (i+1) t=true/\tn (look (s ops.size).env t)=true)/\pW P o (cq (s c).env) (s c).rows (val i) (s c).rows/\ ∀x∈o.op.operands,Rep cx w (cq (s c).env x) (a.eval x):=by
      rcases h with⟨o',t0,b,r,ii,off,row,ao,q1,q2,q3,q4,q5,q6,q7,q8⟩|⟨o',q,q1,q2,q3,q4,q8⟩
      . rw [ho]at q1;cases q1
        have hpc:look (s c).env b= .ptr r ii off:=Ej hc q4 q5 (by omega) (by omega)
        have hpi:look (s i).env b= .ptr r ii off:=Ej hc q4 q5 (by omega) (by omega)
        have tt:=(hc.mH i o ho).ld t0 b r ii off q2 q3 hpi
        have fe:cq (s c).env (.tmp b)= .ptr r ii off:=by simp [cq,hpc]
        have q9:((∀k,i<k->k<c->ks k=[])\/ ∀t,o.dst=some t->kZ ops (i+1) t=true/\tn (look (s ops.size).env t)=true)/\pW P o (cq (s c).env) (s c).rows (val i) (s c).rows:=by
          rcases q8 with⟨e8,q8⟩|⟨⟨td,d1,d2,d3⟩,L,e8,hL⟩
          . subst e8
            exact⟨.inl q8,tt.2.2.2.1 (cq (s c).env) (s c).rows fe (by rw[q6,q7])⟩
          . refine⟨.inr λt ht=>by rw[d1]at ht;cases ht;exact⟨d2,Rc d3⟩,tt.2.2.2.2 (cq (s c).env) (s c).rows row L ?_ (λkk hk=> ?_) fe q6 (by rw[q7,e8])⟩
            rotate_left
            . obtain⟨j,j1,j2,rfl⟩:=hL kk hk
              have h5:=Ek hc d2 (Rc d3) (aX _) (show i+1<=ops.size by omega)
              have h6:=hc.env i o td ho
              rw[if_pos d1,h5]at h6
              have g1:=Ek hc d2 (Rc d3) (show i+1<=j by omega) (show j<=ops.size by omega)
              have g2:=Ek hc d2 (Rc d3) (show i+1<=j+1 by omega) (show j+1<=ops.size by omega)
              have eh:ops[j]? =some ops[j]:=aU (by omega)
              rw[hc.env j _ td eh,if_neg (JV d2 (by omega) eh),BP,g1,Zr6 d3]at g2
              rw[<-h6];exact g2
            have h5:=Ek hc d2 (Rc d3) (aX _) (show i+1<=ops.size by omega)
            have h6:=hc.env i o td ho
            rw[if_pos d1]at h6
            rw[<-h6,h5];exact d3
        refine⟨q2,q9.1,q9.2,λx hx=> ?_⟩
        have jO:x= .tmp b:=by simpa [q3,Op.operands] using hx
        rw[jO]
        refine oG b q4 ?_
        unfold Oper.looksAt
        exact eS _ (List.mem_filterMap.2 ⟨.tmp b,by rw[q3];simp [Op.operands],rfl⟩)
      . rw [ho]at q1;cases q1
        have tt:=(hc.mH i o ho).pu q q2 (Zqu hc q3 q4 (aX _) (by omega))
        refine⟨q2,q8.imp id λg t ht=>⟨(g.2 t ht).1,Qoa (g.2 t ht).2⟩,tt.2.2 (cq (s c).env) (s c).rows (λx hx=> ?_),λy hy=> ?_⟩
        . cases x with
          | tmp b=>
            rcases q8 with q8|q8
            . exact Rm b (q4 b (Z7g q3 hx)) q8 tt.1
            . obtain⟨g1,g2⟩:=q8.1 b (Z7g q3 hx)
              show look (s c).env b=look (s i).env b
              rw[Ek hc g1 (Qoa g2) (by omega) (by omega),Ek hc g1 (Qoa g2) (aX _) (by omega)]
          |_=>rfl
        . cases y with
          | tmp b=>
            refine oG b (q4 b (Z7g q3 hy)) ?_
            unfold Oper.looksAt
            exact eS _ (List.mem_filterMap.2 ⟨.tmp b,by simpa using hy,rfl⟩)
          | const v=>
            simp only[cq,Act.eval]
            cases hv:Ge v with
            |none=>trivial
            |some d=>exact Nj hv cx w
          |global g=>trivial
          |func f=>exact Kp f
    have pq:mn cx (s c).rows:=λr' QQ jE g1 g2=>by
      have hr:r'<(s c).rows.length:=by
        by_cases h:r'<(s c).rows.length
        . exact h
        . simp only[aV,aJ (show(s c).rows.length<=r' by omega)]at g2;cases g2
      rw[hR,Zkz hc hI.quiet HV hr (by omega),g2]at g1
      exact(Option.some.inj g1).symm
    have fin: ∀v w' c',Km cx w (s c).rows (s c).rows c' w'->Rep c' w' (val i) v->K (a.put o.dst v) w':=by
      intro v w' c' hn hv
      refine hK _ w' c d ⟨Wo,HV,λk hk=> ?_,hI.quiet,hI.wr,tX,?_,?_,hI.gk,hI.ib,c',B,hn.mem,λr'=> ?_,λt ht he=> ?_,om.step (ks:=[]) (λk hk=>by simp [cw]at hk) hI.ib hn.toW.toK,λk hk oM=>(nX k hk (by rw[<-h2 k (by omega)];exact oM)).ed hn.toW.toK (by omega) ho,λk j hk hj oM HD e=>oJ k j hk hj (by rw[<-h2 k (by omega)];exact oM) (by rw[<-h2 j (by omega)];exact HD) e⟩
      . by_cases e':k=i
        . rw[e'];exact .inl h1
        . rw[h2 k e'];exact hI.pre k hk
      . cases hd:o.dst<;>simp [Act.put]<;>exact hI.size
      . first|exact mf.put (hI.defers.step hm hn.fr)|exact mf.put (hI.defers.step hm hn.toW.fr)
      . rw[hn.rows,hR,if_neg (by omega),SF (λk hk=>h2 _ (by omega))]
      . rw [SE (λk hk=>h2 _ (by omega))]
        refine Vn hI.size (λu=>hc.dst i o u ho) (λhd=> ?_) (λhd=> ?_)
        ·
          have nm: ∀k o',i<k->ops[k]? =some o'->o'.dst=some t->dz k=false:=λk o' hk eh pH=>by
            cases hl:dz k with
            |false=>rfl
            | true=>
              rcases(FM me hk ho eh).1 with tY|hb
              . exact((Gd tY).1 hd pH).elim
              . have:=oj _ _ hl hb
                rw[h0]at this;cases this
          have Jai: ∀k o',i<k->k<c->ops[k]? =some o'->o'.dst≠some t:=λk o' nq rQ eh pH=>
            ht k o' rQ (by rw[h2 k (by omega)];exact nm k o' nq eh pH) eh pH
          rw[Z0e hc (λk o' hk eh pH=>nm _ o' (by omega) eh pH)]
          have: ∀k,i<k->k<=c->look (s k).env t=val i:=by
            rcases q8 with q8|q8
            rotate_left
            . intro k nq rQ
              obtain⟨g1,g2⟩:=q8 t hd
              have:=hc.env i o t ho
              rw[if_pos hd]at this
              rw[<-this,Ek hc g1 g2 (by omega) (by omega),Ek hc g1 g2 (aX _) (by omega)]
            intro k
            induction k with
            |zero=>intro h;omega
            | succ k ih=>
              intro nq rQ
              have eh:ops[k]? =some ops[k]:=aU (by omega)
              by_cases e':k=i
              . subst e'
                rw[ho]at eh
                rw[hc.env k o t ho,if_pos hd]
              . rw[hc.env k _ t eh,if_neg (Jai k _ (by omega) (by omega) eh),q8 k (by omega) (by omega),oQ]
                exact ih (by omega) (by omega)
          rw[this c Wa (aX _)]
          exact hv
        . refine Ad hn.db (hE t (λk o' hk hl eh pH=> ?_) (λk o' hk hl eh=>he k o' hk (by rw[h2 k (by omega)];exact hl) eh))
          by_cases e':k=i
          . subst e'
            rw[ho]at eh;cases eh
            exact hd pH
          . exact ht k o' hk (by rw[h2 k e'];exact hl) eh pH
    unfold wpOp
    simp only[ho]
    have hw:Region.wanted o (yielded ops a.tmps)=true:=by simp [Region.wanted,q2]
    rw[if_pos hw]
    exact hN.2 cx w a hm jn pq (λr' g1 g2=>by omega) Dg K Q fin
theorem Zjk{c d:Nat}(hI:Inv2 P G N M ops s ks val c0 w0 dz a w c d)(iY:∀i,i<ops.size->dz i=true):∃cx,fu N M c0 w0 cx w (s ops.size) a:=by
 obtain⟨cx,B,hm,hR,hE,om,nX,oJ⟩:=hI.ctx
 have hd:d=ops.size:=by
  by_cases h:d<ops.size
  ·obtain⟨o',t,_,_,g1,_,g3,_⟩:=nX d (aX _) (iY d h)
   have:=hI.wr _ g1
   unfold lh at this
   rw[g3]at this;cases this
  ·have:=hI.dn;omega
 subst hd
 have Wo:=hI.cd
 have hl:∀k,k<ops.size-c->dz (c+k)=true:=λk hk=>iY _ (by omega)
 refine⟨cx,hm,λr=>?_,λt=>?_,hI.size,hI.defers,hI.gk,hI.ib,om⟩
 ·rw[hR,SB hc.toChain hI.quiet hI.dn (by omega) hl,show c+(ops.size-c)=ops.size by omega]
 ·have:=hE t (λk o hk h0 eh=>by rw[iY k (Array.getElem?_eq_some_iff.1 eh).1]at h0;cases h0) (λk o hk _ eh=>by have:=(Array.getElem?_eq_some_iff.1 eh).1;omega)
  rw[SA hc.toChain hI.quiet hI.dn (by omega) hl]at this
  rwa [show c+(ops.size-c)=ops.size by omega]at this
theorem xy(hQ:∀c w a,fu N M c0 w0 c w (s ops.size) a->Q .normal a w):∀(fuel:Nat) (ar:Array Bool) (a:Act) (w:World) (c d:Nat),ar.size=ops.size->mW (λi=>ar.getD i false) ops.size<=fuel->
 Inv2 P G N M ops s ks val c0 w0 (λi=>ar.getD i false) a w c d->HX P .any ops Q fuel ar a w:=by
 intro fuel
 have AW:∀(ar:Array Bool) (i:Nat),ar.size=ops.size->(i∈Region.ready .any ops ar↔ ∃o,ops[i]?=some o/\ar.getD i false=false/\∀e∈o.after,Region.binds .any e=true->ar.getD e.on false=true):=by
  intro ar i gd
  unfold Region.ready
  rw[gM,gN]
  constructor
  ·rintro⟨h1,h2⟩
   have ho:ops[i]?=some ops[i]:=aU h1
   simp only[ho,bA,aR,aE,bB]at h2
   refine⟨_,ho,?_,λe he hb=>?_⟩
   ·have hl:i<ar.size:=by omega
    have:=h2.1
    simpa[aY,hl]using this
   ·have:=Array.all_eq_true'.1 h2.2 e he
    simpa[hb]using this
  ·rintro⟨o,ho,h1,h2⟩
   have bg:=(Array.getElem?_eq_some_iff.1 ho).1
   refine⟨bg,?_⟩
   simp only[ho,bA,aR,aE,bB]
   have hl:i<ar.size:=by omega
   refine⟨by simpa[aY,hl]using h1,Array.all_eq_true'.2 λe he=>?_⟩
   cases hb:Region.binds .any e with
   |false=>rfl
   |true=>simpa[hb]using h2 e he hb
 have kp:∀(ar:Array Bool),ar.size=ops.size->Region.ready .any ops ar=[]->∀i,i<ops.size->ar.getD i false=true:=by
  intro ar gd he i
  induction i using Nat.strongRecOn with
  |_ i ih=>
   intro hi
   cases hl:ar.getD i false with
   |true=>rfl
   |false=>
    exfalso
    have ho:ops[i]?=some ops[i]:=aU hi
    have:i∈Region.ready .any ops ar:=(AW ar i gd).2 ⟨_,ho,hl,λe Ab hb=>by
     have:=Zhl me ho e Ab hb
     exact ih e.on this (by omega)⟩
    rw[he]at this;cases this
 induction fuel with
 |zero=>
  intro ar a w c d gd BH hI
  have iY:=Wm (dz:=λi=>ar.getD i false) (Nat.le_zero.1 BH)
  refine⟨?_,?_⟩
  ·rw[List.eq_nil_iff_forall_not_mem]
   intro i hi
   obtain⟨o,ho,h1,_⟩:=(AW ar i gd).1 hi
   have:=iY i (Array.getElem?_eq_some_iff.1 ho).1
   rw[h1]at this;cases this
  ·obtain⟨cx,hs⟩:=Zjk hc me hI iY
   exact hQ cx w a hs
 |succ fuel ih=>
  intro ar a w c d gd BH hI
  refine⟨λhe=>?_,λi hi=>?_⟩
  ·obtain⟨cx,hs⟩:=Zjk hc me hI (kp ar gd he)
   exact hQ cx w a hs
  ·obtain⟨o,ho,h1,h2⟩:=(AW ar i gd).1 hi
   have bg:=(Array.getElem?_eq_some_iff.1 ho).1
   have so:(ar.setIfInBounds i true).getD i false=true:=by
    have hl:i<ar.size:=by omega
    simp[aY,hl]
   have sq:∀k,k≠i->(ar.setIfInBounds i true).getD k false=ar.getD k false:=λk hk=>by
    rw[aQ,aZ (Ne.symm hk),<-aQ]
   refine qy hc me (gq:=λk=>(ar.setIfInBounds i true).getD k false) hI ho h1 so sq h2 λa' w' c' d' Wp=>?_
   refine ih _ a' w' c' d' (by simpa using gd) ?_ Wp
   have:=Wn (dz:=λk=>ar.getD k false) (gq:=λk=>(ar.setIfInBounds i true).getD k false) h1 so sq bg
   omega
end
theorem AW{ar:Array Bool}(gd:ar.size=ops.size):i∈Region.ready .any ops ar↔ ∃o,ops[i]?=some o/\ar.getD i false=false/\∀e∈o.after,Region.binds .any e=true->ar.getD e.on false=true:=by
 unfold Region.ready
 rw[gM,gN]
 constructor
 ·rintro⟨h1,h2⟩
  have ho:ops[i]?=some ops[i]:=aU h1
  simp only[ho,bA,aR,aE,bB]at h2
  refine⟨_,ho,?_,λe he hb=>?_⟩
  ·have hl:i<ar.size:=by omega
   have:=h2.1
   simpa[aY,hl]using this
  ·have:=Array.all_eq_true'.1 h2.2 e he
   simpa[hb]using this
 ·rintro⟨o,ho,h1,h2⟩
  have bg:=(Array.getElem?_eq_some_iff.1 ho).1
  refine⟨bg,?_⟩
  simp only[ho,bA,aR,aE,bB]
  have hl:i<ar.size:=by omega
  refine⟨by simpa[aY,hl]using h1,Array.all_eq_true'.2 λe he=>?_⟩
  cases hb:Region.binds .any e with
  |false=>rfl
  |true=>simpa[hb]using h2 e he hb
theorem zy{r:Nat}:∀{l:List Nat} {k:Nat},r∉l->pos r l k=k+l.length
 |[],k,_=>rfl
 |x::l,k,h=>by
  simp only[List.mem_cons,not_or]at h
  simp only[pos]
  cases hb:Nat.beq x r with
  |true=>exact(h.1 (bE hb).symm).elim
  |false=>show pos r l (k+1)=_;rw[zy h.2];simp;omega
section
variable {p:List Nat} {ops:Array Oper} (hp:Vo p ops.size=true)
include hp
theorem Vp:p.length=ops.size/\(∀i,i<ops.size->i∈p)/\(∀i∈p,i<ops.size)/\p.Nodup:=by
 unfold Vo at hp
 simp only[aE]at hp
 obtain⟨h1,h2,h3,h4⟩:=hp
 exact⟨bE h1,λi hi=>oa.1 (List.all_eq_true.1 h2 i (List.mem_range.2 hi)),λi hi=>lE (List.all_eq_true.1 h3 i hi),Mn.1 h4⟩
theorem HF(hi:i<ops.size):pos i p 0<ops.size/\p[pos i p 0]?=some i:=by
 obtain⟨h1,h2,h3,h4⟩:=Vp hp
 have:=Bp (h2 i hi)
 exact⟨by have:=(List.getElem?_eq_some_iff.1 this).1;omega,this⟩
theorem Zjp(h:pos i p 0<ops.size):i<ops.size:=by
 obtain⟨h1,h2,h3,h4⟩:=Vp hp
 by_cases hm:i∈p
 ·exact h3 i hm
 ·rw[zy hm]at h;omega
theorem Qsc:(nF p ops).size=ops.size:=by
 obtain⟨h1,_⟩:=Vp hp
 simp[nF,h1]
theorem Vq(hk:p[k]?=some i)(ho:ops[i]?=some o):(nF p ops)[k]?=some (MH p o):=by
 have:ops.getD i default=o:=by
  have bg:=(Array.getElem?_eq_some_iff.1 ho).1
  have:=(Array.getElem?_eq_some_iff.1 ho).2
  simp[aY,bg,this]
 simp[nF,hk,ho]
theorem Zkq(tmps:Array Value)(j:Nat):yielded (nF p ops) tmps (pos j p 0)=yielded ops tmps j:=by
 by_cases hj:j<ops.size
 ·have ho:ops[j]?=some ops[j]:=aU hj
  have h1:=Vq hp (HF hp hj).2 ho
  simp only[yielded,h1,ho,aW]
  rfl
 ·have h1:ops[j]?=none:=gO (by omega)
  have h2:(nF p ops)[pos j p 0]?=none:=by
   refine gO ?_
   rw[Qsc hp]
   by_cases h:pos j p 0<ops.size
   ·exact(hj (Zjp hp h)).elim
   ·omega
  simp only[yielded,h1,h2,Option.bind_none]
theorem Znv(tmps:Array Value):Region.wanted (MH p o) (yielded (nF p ops) tmps)=Region.wanted o (yielded ops tmps):=by
 unfold Region.wanted MH
 cases hg:o.guard with
 |none=>rfl
 |some jw=>obtain⟨j,w⟩:=jw;simp only[Zkq hp]
theorem yy{K K':Act->World->Prop}(hi:i<ops.size)(hK:∀a w,K' a w->K a w)(h:wpOp P (nF p ops) Q (pos i p 0) K' a w):wpOp P ops Q i K a w:=by
 have ho:ops[i]?=some ops[i]:=aU hi
 have h1:=Vq hp (HF hp hi).2 ho
 unfold wpOp at h⊢
 simp only[ho]
 simp only[h1,Znv hp]at h
 split at h
 ·rename_i hw
  rw[if_pos hw]
  exact Zh (Q:=Q) hK h
 ·rename_i hw
  rw[if_neg hw]
  exact hK _ _ h
theorem Zrd:∀(fuel:Nat) (ar fm:Array Bool) (a:Act) (w:World),ar.size=ops.size->fm.size=ops.size->(∀i,i<ops.size->fm.getD (pos i p 0) false=ar.getD i false)->
 HX P .any (nF p ops) Q fuel fm a w->HX P .any ops Q fuel ar a w:=by
 have gd:=Qsc hp
 obtain⟨f1,f2,f3,f4⟩:=Vp hp
 have up:∀(ar fm:Array Bool) (i:Nat),ar.size=ops.size->fm.size=ops.size->(∀i,i<ops.size->fm.getD (pos i p 0) false=ar.getD i false)->i∈Region.ready .any ops ar->i<ops.size/\pos i p 0∈Region.ready .any (nF p ops) fm:=by
  intro ar fm i h1 h2 h3 hi
  obtain⟨o,ho,g1,g2⟩:=(AW h1).1 hi
  have bg:=(Array.getElem?_eq_some_iff.1 ho).1
  refine⟨bg,(AW (by rw[h2,gd])).2 ⟨_,Vq hp (HF hp bg).2 ho,by rw[h3 i bg];exact g1,λe he hb=>?_⟩⟩
  simp only[MH,gP]at he
  obtain⟨e',Ab,rfl⟩:=he
  have:=g2 e' Ab hb
  have Ks:e'.on<ops.size:=by
   by_cases h:e'.on<ops.size
   ·exact h
   ·rw[aY,dif_neg (by omega)]at this;cases this
  show fm.getD (pos e'.on p 0) false=true
  rw[h3 _ Ks];exact this
 have down:∀(ar fm:Array Bool) (k:Nat),ar.size=ops.size->fm.size=ops.size->(∀i,i<ops.size->fm.getD (pos i p 0) false=ar.getD i false)->k∈Region.ready .any (nF p ops) fm->∃i,i∈Region.ready .any ops ar:=by
  intro ar fm k h1 h2 h3 hk
  obtain⟨o',jv,g1,g2⟩:=(AW (by rw[h2,gd])).1 hk
  have bg:=(Array.getElem?_eq_some_iff.1 jv).1
  rw[gd]at bg
  have Bq:p[k]?=some p[k]:=List.getElem?_eq_getElem (by omega)
  have hi:=f3 _ (fL Bq)
  have ho:ops[p[k]]?=some ops[p[k]]:=aU hi
  have Rn:pos p[k] p 0=k:=by
   have:=(HF hp hi).2
   exact(List.getElem?_inj (by have:=(HF hp hi).1;omega) f4).1 (this.trans Bq.symm)
  have h4:=Vq hp Bq ho
  rw[jv]at h4;cases h4
  refine⟨p[k],(AW h1).2 ⟨_,ho,by rw[<-h3 _ hi,Rn];exact g1,λe he hb=>?_⟩⟩
  have:=g2 (Dn p e) (by simp only[MH,gP];exact⟨e,he,rfl⟩) hb
  have this:fm.getD (pos e.on p 0) false=true:=this
  have Ks:pos e.on p 0<ops.size:=by
   by_cases h:pos e.on p 0<ops.size
   ·exact h
   ·rw[aY,dif_neg (by omega)]at this;cases this
  rw[<-h3 _ (Zjp hp Ks)];exact this
 intro fuel
 induction fuel with
 |zero=>
  intro ar fm a w h1 h2 h3 h
  refine⟨?_,h.2⟩
  cases hr:Region.ready .any ops ar with
  |nil=>rfl
  |cons i l=>
   have:=(up ar fm i h1 h2 h3 (by rw[hr];simp)).2
   rw[h.1]at this;cases this
 |succ fuel ih=>
  intro ar fm a w h1 h2 h3 h
  refine⟨λhe=>h.1 ?_,λi hi=>?_⟩
  ·cases hr:Region.ready .any (nF p ops) fm with
   |nil=>rfl
   |cons k l=>
    obtain⟨i,hi⟩:=down ar fm k h1 h2 h3 (by rw[hr];simp)
    rw[he]at hi;cases hi
  ·obtain⟨bg,iL⟩:=up ar fm i h1 h2 h3 hi
   refine yy hp bg (λa' w' hk=>ih _ _ a' w' (by simpa using h1) (by simpa using h2) (λk hk=>?_) hk) (h.2 _ iL)
   have hpi:=(HF hp bg)
   have Bq:=(HF hp hk)
   have gs:∀(A:Array Bool) (x y:Nat),x<A.size->(A.setIfInBounds x true).getD y false=if x=y then true else A.getD y false:=λA x y hx=>by
    simp only[aQ,Array.getElem?_setIfInBounds]
    split
    ·rename_i e;subst e;simp[hx]
    ·rfl
   rw[gs _ _ _ (by omega),gs _ _ _ (by omega)]
   by_cases e:i=k
   ·subst e;simp
   ·have ia:pos i p 0≠pos k p 0:=λe'=>by
     have:=Bq.2
     rw[<-e',hpi.2]at this
     exact e (Option.some.inj this)
    rw[if_neg e,if_neg ia];exact h3 k hk
end
theorem Zmw{ro:Option Nat}(hm:P.follows .mixedOrders=true){N M id:Nat}{Q:Ex->St->Prop}(hT:jm P T)(hG:jF P G){p:List Nat}(hp:Vo p ops.size=true)(h:mb T G N M (nF p ops) (nF p ops).toList st λst=>cv (Rf G (nF p ops) st.env) (Q .normal st)):tZ ro P N M (.region id ops true) st Q:=by
 intro c0 w0 c w a hs
 have hs:=hs.drew
 refine Qxx hm ?_
 refine Zrd hp ops.size _ (gE ops.size false) a _ (by simp) (by simp) (λi hi=>by simp[aY,(HF hp hi).1,hi]) ?_
 obtain⟨s,ks,val,h1,h2,h3,h4,h5,h6⟩:=Zky hT hG (nF p ops).toList 0 st (by simp) h
 have hc:Vm P G N M (nF p ops) s ks val:=⟨⟨λi o ho=>h3 i o (bC _) ho,λi o t ho=>h4 i o t (bC _) ho,λi o t ho=>h5 i o t (bC _) ho⟩,λi o ho=>h6 i o (bC _) ho⟩
 have gd:s (0+(nF p ops).toList.length)=s (nF p ops).size:=by simp
 rw[gd]at h2
 obtain⟨hd,h2⟩:=dm.1 h2
 have kY:=Qsc hp
 obtain⟨d,g1,g2,g3,g4⟩:=Nf G (nF p ops) _ 0 rfl (bC _)
 have hz:∀i,(gE (nF p ops).size false).getD i false=false:=λi=>by
  by_cases h:i<(nF p ops).size
  ·simp[aY,h]
  ·simp[aY,h]
 rw[<-kY]
 refine xy hc hd (Q:=λe a' w'=>∃ex jx c',mX e=some ex/\Q ex jx/\fu N M c0 w0 c' w' jx a') (λc w a jb=>⟨_,_,c,rfl,h2,jb⟩) (nF p ops).size _ a _ 0 d (by simp) (Wl _ _)
  ⟨g1,g2,λi hi=>by omega,g3,g4,λj hj=>by simp[hz]at hj,hs.size,hs.defers,hs.gk,hs.ib,c,λ_=>0,hs.mem,λr=>?_,λt _ _=>?_,hs.reach,λi _ hl=>by simp[hz]at hl,λi j _ _ hl=>by simp[hz]at hl⟩
 ·rw[SD (λi _=>hz _),h1];exact hs.rows r
 ·rw[SC (λi _=>hz _),h1];exact hs.env t
theorem qz(hm:P.follows .mixedOrders=true):pP P:=by
 intro ro T G N M id ops st Q hT hG h
 unfold uV at h
 split at h
 ·rename_i hd
  exact xa hm ro T G N M id ops st Q hT hG hd h
 ·obtain⟨h1,h2⟩:=dm.1 h
  exact Zmw hm hT hG h1 h2
