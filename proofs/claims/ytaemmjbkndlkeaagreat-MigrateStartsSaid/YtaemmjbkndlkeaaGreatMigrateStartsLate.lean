import Derived.Test.YtaemmjbkndlkeaaGreatMigrateStartsDraw
open List renaming all_cons->gM,mem_cons_self->eW,getD->aV,getElem?_eq_none->aJ,mem_of_getElem?->fO,mem_append_left->eU,mem_append_right->eZ,mem_filter->gP,mem_range->gQ
open Array renaming mem_toList_iff->gO,toArray_toList->bW,getElem?_eq_getElem->aU,getElem?_setIfInBounds_ne->aZ,getD->aY,getD_eq_getD_getElem?->aQ,getElem?_eq_none->gR,mem_map->gS,replicate->gI
open Option renaming bind_some->aW,map_some->bA,getD_some->aR
open Bool renaming or_eq_true->aT,false_eq_true->aA,not_eq_true'->bB
open Nat renaming lt_of_lt_of_le->bM,le_refl->aX,add_zero->aB,zero_le->bC
set_option linter.all false
namespace Go.GD
open Go
set_option linter.unusedSectionVars false
variable {G:List bb}{K:D->Rows->Prop}{M N b i j k off r u:Nat}{P:Program}{Q:Exit->Act->World->Prop}{R:Rows}{T:iy}{a:Act}{arr:Array Value}{c c' c0:Ctx}{d:D}{ev:Operand->D}{dr:Nat->Bool}{o x y:Oper}{op:Op}{ops:Array Oper}{pl:Bool}{q:List Nat}{row:Row}{s:Nat->St}{st:St}{t:TypeId}{ti:TI}{ty:sk}{v:Value}{val:Nat->D}{w w' w0:World}
theorem Z1z{K:D->Prop}(h:uL pl ty d K):∃d',K d'/\∀K2:D->Prop,K2 d'->uL pl ty d K2:=by
 cases ty<;>simp only[uL]at h⊢
 ·exact⟨_,(dd.1 h).2,λK2 h2=>dd.2 ⟨(dd.1 h).1,h2⟩⟩
 ·exact⟨_,(dd.1 h).2,λK2 h2=>dd.2 ⟨(dd.1 h).1,h2⟩⟩
 ·exact⟨_,(dd.1 h).2,λK2 h2=>dd.2 ⟨(dd.1 h).1,h2⟩⟩
 ·cases pl
  ·simp only[D.c7]at h⊢
   exact⟨_,(dd.1 h).2,λK2 h2=>dd.2 ⟨(dd.1 h).1,h2⟩⟩
  ·exact⟨_,(dd.1 h).2,λK2 h2=>dd.2 ⟨(dd.1 h).1,h2⟩⟩
 ·cases pl
  ·simp only[D.c7]at h⊢
   exact⟨_,(dd.1 h).2,λK2 h2=>dd.2 ⟨(dd.1 h).1,h2⟩⟩
  ·cases d<;>first|exact h.elim|exact⟨_,h,λK2 h2=>h2⟩
theorem MP{pl:Bool}{e:List D}:∀{dj:List sk} {off:Nat} {K:List D->Prop},Ee pl e dj off K->∃ds,K ds/\∀K2:List D->Prop,K2 ds->Ee pl e dj off K2
 |[],off,K,h=>⟨[],h,λK2 h2=>h2⟩
 |t::ts,off,K,h=>by
  simp only[Ee]at h⊢
  obtain⟨d,hd,h1⟩:=Z1z h
  obtain⟨ds,Ef,h2⟩:=MP hd
  exact⟨_,Ef,λK2 hk=>h1 _ (h2 _ hk)⟩
theorem Vw{e:List D}{K:D->Prop}(h:uM pl ti e off K):∃d,K d/\∀K2:D->Prop,K2 d->uM pl ti e off K2:=by
 unfold uM at h
 cases hg:ti.kind.isAgg with
 |true=>
  simp only[hg]at h
  obtain⟨ds,h1,h2⟩:=MP h
  exact⟨_,h1,λK2 hk=>by unfold uM;simp only[hg];exact h2 _ hk⟩
 |false=>
  simp only[hg]at h
  split at h
  ·rename_i y hy
   obtain⟨d,h1,h2⟩:=Z1z h
   exact⟨_,h1,λK2 hk=>by unfold uM;simp only[hg,hy];exact h2 _ hk⟩
  ·exact h.elim
theorem Zla(h:wN T t (.ptr r i off) R K):
 ∃d,K d R/\(∃row,R.getD r none=some row)/\∀R2:Rows,R2.getD r none=R.getD r none->wN T t (.ptr r i off) R2 λd' R'=>d'=d/\R'=R2:=by
 unfold wN at h
 cases hT:T.get t with
 |none=>simp only[hT]at h
 |some ti=>
  simp only[hT]at h
  cases hr:R.getD r none with
  |none=>simp only[hr]at h
  |some row=>
   obtain⟨box,ty,sz,es⟩:=row
   simp only[hr,dd]at h
   obtain⟨h0,h⟩:=h
   obtain⟨d,h1,h2⟩:=Vw h
   refine⟨d,h1,?_,λR2 uH=>?_⟩
   ·exact⟨_,rfl⟩
   ·unfold wN
    simp only[hT,uH,dd]
    exact⟨h0,h2 _ (by simp)⟩
theorem Z2v{ks:List Nat}(h:FK d=true):d.fe ks=d:=by cases d<;>first|rfl|cases h
theorem Z3j{ks:List Nat}:∀{l:List D},l.all FK=true->D.jk ks l=l
 |[],_=>rfl
 |d::l,h=>by
  simp only[gM,aE]at h
  simp only[D.jk]
  rw[Z2v h.1,Z3j h.2]
theorem Zoi{ks:List Nat}(h:FK (d.fe ks)=true):d.fe ks=d:=by
 cases d<;>first
  |rfl
  |(simp only[D.fe]at h;split at h<;>cases h)
theorem Qof{ks:List Nat}:∀{l:List D},(D.jk ks l).all FK=true->D.jk ks l=l
 |[],_=>rfl
 |d::l,h=>by
  simp only[D.jk,gM,aE]at h
  simp only[D.jk]
  rw[Zoi h.1,Qof h.2]
theorem Zt9(h:pA d=true)(ks:List Nat):d.j0 ks=d.fe ks:=by
 cases d<;>first
  |rfl
  |(cases h;done)
  |(simp only[D.j0,D.kill,D.fe];rw[Z3j h])
theorem Ze9{d d':D}{ks:List Nat}(h:uL pl ty d λx=>x=d')(hd:d'.fe ks=d'):d.fe ks=d:=by
 cases ty<;>simp only[uL]at h
 ·cases d<;>first|rfl|(simp[D.isInt,dd]at h;done)
 ·cases d<;>first|rfl|(simp[D.isBool,dd]at h;done)
 ·cases d<;>first|rfl|(simp[D.isStr,dd]at h;done)
 ·cases pl
  ·simp only[D.c7,dd]at h
   rw[h.2];exact hd
  ·simp only[dd]at h
   cases d<;>first|rfl|(simp[D.Fs,dd]at h;done)
 ·cases pl
  ·simp only[D.c7,dd]at h
   rw[h.2];exact hd
  ·cases d<;>first|exact h.elim|rfl
theorem Zcw{ks:List Nat}:∀{l:List D} {j:Nat},(D.jk ks l).getD j .dead=(l.getD j .dead).fe ks
 |[],_=>rfl
 |_::_,0=>rfl
 |_::l,j+1=>Zcw (l:=l) (j:=j)
theorem Z8k(ks:List Nat)(row:Row)(i off:Nat):((row.kill ks).es.get i).getD off .dead=(row.es.get i).getD off .dead\/((row.kill ks).es.get i).getD off .dead=((row.es.get i).getD off .dead).fe ks:=by
 unfold Row.kill
 split
 ·rename_i ty sz e
  cases i with
  |zero=>exact .inr Zcw
  |succ i=>exact .inl rfl
 ·exact .inl rfl
theorem Z93{pl:Bool}{ks:List Nat}{e e2:List D}(he:∀j,e2.getD j .dead=e.getD j .dead\/e2.getD j .dead=(e.getD j .dead).fe ks):∀{dj:List sk} {off:Nat} {ds:List D},Ee pl e dj off (λx=>x=ds)->ds.all FK=true->Ee pl e2 dj off λx=>x=ds
 |[],_,_,h,_=>h
 |t ::ts,off,ds,h,hd=>by
  simp only[Ee]at h⊢
  obtain⟨d,h1,h2⟩:=Z1z h
  obtain⟨ds1,h3,h4⟩:=MP h1
  subst h3
  simp only[gM,aE]at hd
  have hc:=h2 (λx=>x=d) rfl
  have e:e2.getD off .dead=e.getD off .dead:=by
   rcases he off with e|e
   ·exact e
   ·rw[e];exact Ze9 hc (Z2v hd.1)
  rw[e]
  refine h2 _ ?_
  obtain⟨ds3,h5,h6⟩:=MP (Z93 he (h4 (λx=>x=ds1) rfl) hd.2)
  exact h6 _ (by rw[h5])
theorem Zo8{v:D}{ks:List Nat}(h:uM pl ti (row.es.get i) off λx=>x=v)(hv:pA v=true)(hk:v.fe ks=v):uM pl ti ((row.kill ks).es.get i) off λx=>x=v:=by
 unfold uM at h⊢
 cases hg:ti.kind.isAgg with
 |true=>
  simp only[hg]at h⊢
  obtain⟨ds,h1,h2⟩:=MP h
  rw[<-h1]at hv⊢
  have hd:ds.all FK=true:=hv
  have:=Z93 (e2:=(row.kill ks).es.get i) (ks:=ks) (λj=>Z8k ks row i j) (h2 (λx=>x=ds) rfl) hd
  obtain⟨ds2,h3,h4⟩:=MP this
  exact h4 _ (by rw[h3])
 |false=>
  simp only[hg]at h⊢
  split at h
  ·rename_i y hy
   have e:((row.kill ks).es.get i).getD off .dead=(row.es.get i).getD off .dead:=by
    rcases Z8k ks row i off with e|e
    ·exact e
    ·rw[e];exact Ze9 h hk
   rw[e];exact h
  ·exact h.elim
theorem Z3v{pl:Bool}{ti:TI}{i off:Nat}{v:D}(hv:pA v=true):∀{L:List (List Nat)} {row:Row},(∀kk∈L,v.fe kk=v)->(uM pl ti (row.es.get i) off λx=>x=v)->uM pl ti ((L.foldl (λr k=>Row.kill k r) row).es.get i) off λx=>x=v
 |[],_,_,h=>h
 |k::L,row,hL,h=>Z3v hv (L:=L) (row:=row.kill k) (λkk hk=>hL kk (List.mem_cons_of_mem _ hk)) (Zo8 h hv (hL k (eW ..)))
theorem Z8d:∀(L:List (List Nat)) (row:Row),(L.foldl (λr k=>Row.kill k r) row).box=row.box/\(L.foldl (λr k=>Row.kill k r) row).sz=row.sz
 |[],_=>⟨rfl,rfl⟩
 |k::L,row=>by
  obtain⟨k1,k2,k3,k4⟩:=wh k row
  obtain⟨h1,h2⟩:=Z8d L (row.kill k)
  exact⟨h1.trans k1,h2.trans k3⟩
theorem Zu1{R R2:Rows}{v:D}{L:List (List Nat)}(h:wN T t (.ptr r i off) R λd' R'=>d'=v/\R'=R)(hv:pA v=true)(hL:∀kk∈L,v.fe kk=v)(hr:R.getD r none=some row)(uH:R2.getD r none=some (L.foldl (λr k=>Row.kill k r) row)):
 wN T t (.ptr r i off) R2 λd' R'=>d'=v/\R'=R2:=by
 obtain⟨s1,s2⟩:=Z8d L row
 unfold wN at h⊢
 cases hT:T.get t with
 |none=>simp only[hT]at h
 |some ti=>
  simp only[hT,hr]at h
  simp only[hT,uH]
  obtain⟨box,ty,sz,es⟩:=row
  simp only at h s1 s2
  generalize c6:L.foldl (λr k=>Row.kill k r) (⟨box,ty,sz,es⟩:Row)=jA at s1 s2⊢
  obtain⟨Rz,ty2,sz2,es2⟩:=jA
  simp only at s1 s2⊢
  subst s1;subst s2
  simp only[dd]at h⊢
  refine⟨h.1,?_⟩
  have hx:uM (!Rz) ti (es.get i) off λx=>x=v:=by
   obtain⟨d,h1,h2⟩:=Vw h.2
   exact h2 _ h1.1
  have:=Z3v (L:=L) (row:=⟨Rz,ty,sz2,es⟩) hv hL hx
  rw[c6]at this
  obtain⟨d,h1,h2⟩:=Vw this
  exact h2 _ ⟨h1,by first|trivial|rfl⟩
theorem Zfc(h:Hv T t (.ptr r i off) d R K):
 ∃R',K .dead R'/\(∀r',r'≠r->R'.getD r' none=R.getD r' none)/\Hv T t (.ptr r i off) d R λd' R2=>d'=.dead/\R2=R':=by
 unfold Hv at h
 cases hT:T.get t with
 |none=>simp only[hT]at h
 |some ti=>
  simp only[hT]at h
  cases hr:R.getD r none with
  |none=>simp only[hr]at h
  |some row=>
   obtain⟨box,ty,sz,es⟩:=row
   simp only[hr,dd]at h
   obtain⟨h0,h⟩:=h
   have uN:∀(x:Option Row) (r':Nat),r'≠r->(R.set r x).getD r' none=R.getD r' none:=λx r' h=>by
    simp only[aV,List.getElem?_set_ne (Ne.symm h)]
   cases box with
   |true=>
    simp only[D.fc,nk]at h
    refine⟨_,h,uN _,?_⟩
    unfold Hv
    simp only[hT,hr,dd,D.fc,nk]
    exact⟨h0,by simp⟩
   |false=>
    simp only[nk]at h
    refine⟨_,h.2,uN _,?_⟩
    unfold Hv
    simp only[hT,hr,dd,nk]
    exact⟨h0,h.1,by simp⟩
structure Vx(P:Program)(o:Oper)(row:Row)(arr:Array Value):Prop where
 box:row.box=true
 sz:0<row.sz
 cells:∃e,row.es=.gen [e]/\e.length=row.sz/\arr.size=row.sz/\∀(c:Ctx) (w:World),kG c w e arr 0
 run:∀(ev:Operand->Value) (w:World),(execOp ev o).run P w=.ok (.value (.pointer (some ⟨w.heap.size,0,none⟩))) (w.alloc (.cells arr row.ty))
theorem Zv2(hT:ji P T)(ho:o.op=.alloc t){k:TK}{sz b:Nat}{cs:List sk}{ds:List D}{e:Bool}(ht:T.get t=some ⟨k,sz,b,cs,some ds,e⟩)(h0:0<sz)(hl:ds.length=sz):∃arr,Vx P o ⟨true,t,sz,.gen [ds]⟩ arr:=by
 obtain⟨i,u,hi,hu,hz,_,_,_,hzero⟩:=Hd hT ht
 have hb:∀(c:Ctx) (w:World),Vm c w ⟨true,t,sz,.gen [ds]⟩ u.cells:=λc w=>Zps h0 hl (JL hz c w)
 have ft:u.cells.size=sz:=by have:=Mu hz;simp at this;omega
 refine⟨u.cells,⟨rfl,h0,⟨ds,rfl,hl,ft,λc w=>?_⟩,λev w=>?_⟩⟩
 ·have:=(hb c w).2
  simp only[if_true]at this
  obtain⟨e',h1,_,_,h4⟩:=this
  cases h1;exact h4
 ·simp only[execOp,ho,Instr.alloc,Sem.run_bind,hzero,Result.andThen_ok,Z19,Sem.run_pure]
structure J0(P:Program)(G:List bb)(o:Oper)(env:List (Nat×D))(R:Rows)(ks:List Nat)(val:D)(R':Rows):Prop where
 ld:∀t a r ii off,o.guard=none->o.op=.load t (.tmp a)->look env a=.ptr r ii off->ks=[]/\R'=R/\(∃row,R.getD r none=some row)/\(∀(ev:Operand->D) (R2:Rows),ev (.tmp a)=.ptr r ii off->R2.getD r none=R.getD r none->pJ P o ev R2 val R2)/\∀(ev:Operand->D) (R2:Rows) row (L:List (List Nat)),pA val=true->(∀kk∈L,val.fe kk=val)->ev (.tmp a)=.ptr r ii off->R.getD r none=some row->R2.getD r none=some (L.foldl (λr k=>Row.kill k r) row)->pJ P o ev R2 val R2
 st:∀t b x r ii off,o.guard=none->o.op=.store t (.tmp b) x->look env b=.ptr r ii off->ks=[]/\∀r',r'≠r->R'.getD r' none=R.getD r' none
 pu:∀q,o.guard=none->lK env o.op=some q->ks=[]/\R'=R/\∀(ev:Operand->D) (R2:Rows),(∀x∈o.op.operands,ev x=cu env x)->pJ P o ev R2 val R2
 cl:∀f args dj,o.guard=none->o.op=.call ⟨.value (.func f),args,dj⟩->(oX G f=none/\BL G f=false)->ks=[]
 al:∀t,o.guard=none->o.op=.alloc t->ks=[]/\∃row arr,Vx P o row arr/\val=.ptr R.length 0 0/\R'=R++[some row]
 ap2:∀args dj,o.guard=none->o.op=.call ⟨.builtin .append,args,dj⟩->∀r row,R.getD r none=some row->da r ks=false->R'.getD r none=some (row.kill ks)
 ap:∀args dj x l,o.guard=none->o.op=.call ⟨.builtin .append,args,dj⟩->args.toList=.tmp x::l->J1 (look env x)=true->ks=[]/\∀r row,R.getD r none=some row->R'.getD r none=some row
theorem AL{a:Nat}:∀{l:List Operand},a∈lT l↔Operand.tmp a∈l
 |[]=>by simp[lT]
 |x::l=>by cases x<;>simp[lT,AL (l:=l)]
theorem Zpe(h:rC op=some q){a:Nat}(ha:Operand.tmp a∈op.operands):a∈q:=by
 unfold rC at h
 split at h
 ·cases h;rw[AL];simpa[Op.operands]using ha
 ·cases h;rw[AL];simpa[Op.operands]using ha
 ·cases h;rw[AL];simpa[Op.operands]using ha
 ·cases h;rw[AL];simpa[Op.operands]using ha
 ·cases h;rw[AL];simpa[Op.operands]using ha
 ·split at h
  ·cases h
  ·cases h;rw[AL];simpa[Op.operands]using ha
 ·cases h
theorem Zfn(h:rC op=some q):r6 G op=false/\Gk op=false/\(∀t x,op≠.load t x)/\(∀t x y,op≠.store t x y)/\∀c,op≠.call c:=by
 unfold rC at h
 split at h<;>first|exact⟨rfl,rfl,λ_ _ h=>(by cases h),λ_ _ _ h=>(by cases h),λ_ h=>(by cases h)⟩|cases h
theorem vW(hq:rC op=some q)(h:gr T op ev R K):
 ∃val,K val R/\∀(gz:Operand->D) (R2:Rows),(∀x∈op.operands,gz x=ev x)->gr T op gz R2 λd R'=>d=val/\R'=R2:=by
 unfold rC at hq
 split at hq
 ·rename_i x
  simp only[gr,D.c7]at h⊢
  exact⟨_,h,λgz R2 he=>⟨he x (by simp[Op.operands]),trivial⟩⟩
 ·rename_i x
  simp only[gr,D.c7]at h⊢
  exact⟨_,h,λgz R2 he=>⟨he x (by simp[Op.operands]),trivial⟩⟩
 ·rename_i x n
  simp only[gr]at h⊢
  split at h
  ·rename_i ds Ef
   simp only[dd,D.c7]at h
   refine⟨_,h.2,λgz R2 he=>?_⟩
   rw[he x (by simp[Op.operands]),Ef]
   simp only[dd,D.c7]
   exact⟨h.1,trivial,trivial⟩
  ·exact h.elim
 ·rename_i x
  simp only[gr]at h⊢
  split at h
  ·rename_i hx
   refine⟨_,h,λgz R2 he=>?_⟩
   rw[he x (by simp[Op.operands]),hx]
   simp
  ·rename_i hx
   refine⟨_,h,λgz R2 he=>?_⟩
   rw[he x (by simp[Op.operands]),hx]
   simp
  ·exact h.elim
 ·rename_i t x f
  simp only[gr]at h⊢
  split at h
  ·simp only[dd]at h⊢
   obtain⟨h0,h⟩:=h
   split at h
   ·rename_i hx
    refine⟨_,h,λgz R2 he=>⟨h0,?_⟩⟩
    rw[he x (by simp[Op.operands]),hx]
    simp
   ·rename_i hx
    refine⟨_,h,λgz R2 he=>⟨h0,?_⟩⟩
    rw[he x (by simp[Op.operands]),hx]
    simp
   ·exact h.elim
  ·exact h.elim
 ·rename_i t len parts
  simp only[gr,HG]at h⊢
  cases hl:Vc t len
  rotate_left
  ·simp only[hl]at hq;cases hq
  simp only[hl,Ae]at h⊢
  obtain⟨val,h1,h2⟩:=Zox h
  exact⟨val,h1,λgz R2 he=>h2 gz R2 λp hp=>he p.2 (by simp[Op.operands];exact⟨p.1,by simpa using hp⟩)⟩
 ·cases hq
theorem xx(hq:rC o.op=some q){K:St->Prop}(h:lO T G N M o st K):gr T o.op (cu st.env) st.rows λd R=>st.put N o.dst d R K:=by
 obtain⟨dst,op,type,pos,after,guard⟩:=o
 simp only at hq⊢
 unfold rC at hq
 split at hq<;>first|exact h|cases hq
theorem xaw{op:BinOp}{x y:D}{K:D->Prop}(h:sQ T op t x y K):∃val,K val/\∀K',K' val->sQ T op t x y K':=by
 unfold sQ at h⊢
 split at h
 ·split at h
  ·simp only[dd]at h⊢;exact⟨_,h.2,λK' h'=>⟨h.1,h'⟩⟩
  ·simp only[dd]at h⊢;exact⟨_,h.2,λK' h'=>⟨h.1,h'⟩⟩
  ·rename_i n1 n2
   simp only[dd]at h⊢
   obtain⟨h1,h⟩:=h
   unfold Vj at h⊢
   split at h<;>first|exact⟨_,h,λK' h'=>⟨h1,h'⟩⟩|(simp only[dd]at h⊢;exact⟨_,h.2,λK' h'=>⟨h1,h.1,h'⟩⟩)|exact h.elim
 ·split at h<;>first|exact⟨_,h,λK' h'=>h'⟩|(simp only[dd]at h⊢;exact⟨_,h.2,λK' h'=>⟨h.1,h'⟩⟩)|exact h.elim
 ·split at h
  ·split at h<;>first|exact⟨_,h,λK' h'=>h'⟩|exact h.elim
  ·exact h.elim
 ·split at h
  ·simp only[dd]at h⊢
   obtain⟨h1,h⟩:=h
   split at h<;>first|exact⟨_,h,λK' h'=>⟨h1,h'⟩⟩|exact h.elim
  ·exact h.elim
 ·exact h.elim
theorem qX{s d:TypeId}{x:D}{K:D->Prop}(h:MH T s d x K):∃val,K val/\∀K',K' val->MH T s d x K':=by
 unfold MH at h⊢
 split at h
 ·split at h
  ·exact⟨_,h,λK' h'=>h'⟩
  ·exact h.elim
 ·split at h
  ·exact⟨_,h,λK' h'=>h'⟩
  ·exact h.elim
 ·exact h.elim
theorem Zgl{place:Nat->Option (Nat×Nat)}{ev:Operand->D}:∀{parts:List (Nat×Operand)} {cs:List D} {K:List D->Prop},Fy place ev parts cs K->∃l,K l/\∀(gz:Operand->D) (K':List D->Prop),(∀p∈parts,gz p.2=ev p.2)->K' l->Fy place gz parts cs K'
 |[],cs,K,h=>by
  simp only[Fy,D.fc]at h⊢
  exact⟨_,h,λgz K' _ h'=>h'⟩
 |(i,x)::ps,cs,K,h=>by
  simp only[Fy]at h⊢
  split at h
  ·rename_i off n hp
   simp only[dd]at h
   obtain⟨h1,h⟩:=h
   obtain⟨l,g1,g2⟩:=Zgl h
   refine⟨l,g1,λgz K' he h'=>?_⟩
   have hx:=he (i,x) (by simp)
   simp only at hx
   simp only[hx,dd]
   exact⟨h1,g2 gz K' (λp hpp=>he p (by simp[hpp])) h'⟩
  ·exact h.elim
theorem zx{parts:List (Nat×Operand)}(h:MJ T t parts ev R K):∃val,K val R/\∀(gz:Operand->D) (R2:Rows),(∀p∈parts,gz p.2=ev p.2)->MJ T t parts gz R2 λd R'=>d=val/\R'=R2:=by
 unfold MJ at h⊢
 split at h
 ·simp only[dd]at h⊢
  obtain⟨h1,h⟩:=h
  obtain⟨l,g1,g2⟩:=Zgl h
  exact⟨_,g1,λgz R2 he=>⟨h1,g2 gz _ he (by simp)⟩⟩
 ·simp only[dd]at h⊢
  obtain⟨h1,h⟩:=h
  obtain⟨l,g1,g2⟩:=Zgl h
  exact⟨_,g1,λgz R2 he=>⟨h1,g2 gz _ he (by simp)⟩⟩
 ·exact h.elim
theorem MQ{x:D}{lo hi:Option Operand}(h:MI T t x lo hi ev R K)(hx:FK x=true):∃val,K val R/\∀(gz:Operand->D) (R2:Rows),(∀y,lo=some y->gz y=ev y)->(∀y,hi=some y->gz y=ev y)->MI T t x lo hi gz R2 λd R'=>d=val/\R'=R2:=by
 have RA:∀(x:Option Operand) (n:Int) (gz:Operand->D),(∀y,x=some y->gz y=ev y)->rT x gz n=rT x ev n:=λx n gz he=>by
  unfold rT
  cases x with
  |none=>rfl
  |some y=>simp only[he y rfl]
 unfold MI at h⊢
 split at h
 all_goals cases x<;>first|exact h.elim|(cases hx;done)|skip
 all_goals
  simp only at h
  split at h
  ·rename_i l hh e1 e2
   simp only[dd]at h
   refine⟨_,h.2,λgz R2 he1 he2=>?_⟩
   simp only[RA _ _ gz he1,RA _ _ gz he2,e1,e2,dd]
   exact⟨h.1,trivial,trivial⟩
  ·exact h.elim
theorem yx{env:List (Nat×D)}(hq:lK env op=some q)(h:gr T op (cu env) R K):
    ∃val,K val R/\ ∀(gz:Operand->D) (R2:Rows),(∀x∈op.operands,gz x=cu env x)->gr T op gz R2 λd R'=>d=val/\R'=R2:=by
  unfold lK at hq
  split at hq
  . rename_i q' hp;exact vW hp h
  . split at hq
    . rename_i t parts hn
      simp only[gr]at h⊢
      obtain⟨val,g1,g2⟩:=zx h
      exact⟨val,g1,λgz R2 he=>g2 gz R2 λp hp=>he p.2 (by simp [Op.operands];exact⟨p.1,by simpa using hp⟩)⟩
    . rename_i op' t x y ty hn
      simp only[gr]at h⊢
      obtain⟨val,g1,g2⟩:=xaw h
      refine⟨val,g1,λgz R2 he=> ?_⟩
      rw[he x (by simp [Op.operands]),he y (by simp [Op.operands])]
      exact g2 _ (by simp)
    . rename_i op' t x hn
      simp only[gr]at h⊢
      split at h
      all_goals first
        |exact h.elim
        | (rename_i hx
           refine⟨_,h,λgz R2 he=> ?_⟩
           rw[he x (by simp [Op.operands]),hx]
           simp)
    . rename_i s d x hn
      simp only[gr]at h⊢
      obtain⟨val,g1,g2⟩:=qX h
      refine⟨val,g1,λgz R2 he=> ?_⟩
      rw[he x (by simp [Op.operands])]
      exact g2 _ (by simp)
    . rename_i s x f hn
      simp only[gr]at h⊢
      split at h
      . split at h
        . rename_i cs ti hx ht
          simp only[dd]at h
          obtain⟨h1,h⟩:=h
          split at h
          . rename_i CO
            simp only[D.fc]at h
            refine⟨_,h,λgz R2 he=> ?_⟩
            simp only[he x (by simp [Op.operands]),hx,ht,dd,CO,D.fc]
            exact⟨h1,trivial,trivial⟩
          . rename_i CO
            simp only[dd,D.c7]at h
            refine⟨_,h.2,λgz R2 he=> ?_⟩
            simp only[he x (by simp [Op.operands]),hx,ht,dd,CO,D.c7]
            exact⟨h1,h.1,trivial,trivial⟩
        . exact h.elim
      . exact h.elim
    . rename_i t x y hn
      simp only[gr]at h⊢
      split at h
      . rename_i ht hx hy
        simp only[dd]at h
        refine⟨_,h.2,λgz R2 he=> ?_⟩
        simp only[he x (by simp [Op.operands]),he y (by simp [Op.operands]),hx,hy,ht,dd]
        exact⟨h.1,trivial,trivial⟩
      . rename_i ht hx hy
        simp only[dd]at h
        obtain⟨h1,h⟩:=h
        split at h
        . rename_i w5
          refine⟨_,h.2,λgz R2 he=> ?_⟩
          simp only[he x (by simp [Op.operands]),he y (by simp [Op.operands]),hx,hy,ht,dd,w5]
          exact⟨h1,h.1,trivial,trivial⟩
        . rename_i w5
          refine⟨_,h.2,λgz R2 he=> ?_⟩
          simp only[he x (by simp [Op.operands]),he y (by simp [Op.operands]),hx,hy,ht,dd,w5]
          exact⟨h1,h.1,trivial,trivial⟩
        . exact h.elim
      . exact h.elim
    . rename_i t x y z hn
      split at hq
      . rename_i str hx
        simp only[gr,hx]at h⊢
        obtain⟨val,g1,g2⟩:=MQ h rfl
        refine⟨val,g1,λgz R2 he=> ?_⟩
        rw[he x (by simp [Op.operands]),hx]
        exact g2 gz R2 (λu hu=>he u (by cases hu;simp [Op.operands])) (λu hu=>he u (by cases hu;simp [Op.operands]))
      . rename_i sz es fr hx
        simp only[gr,hx]at h⊢
        obtain⟨val,g1,g2⟩:=MQ h rfl
        refine⟨val,g1,λgz R2 he=> ?_⟩
        rw[he x (by simp [Op.operands]),hx]
        exact g2 gz R2 (λu hu=>he u (by cases hu;simp [Op.operands])) (λu hu=>he u (by cases hu;simp [Op.operands]))
      . cases hq
    . rename_i t x y hn
      split at hq
      . rename_i str hx
        simp only[gr,hx]at h⊢
        obtain⟨val,g1,g2⟩:=MQ h rfl
        refine⟨val,g1,λgz R2 he=> ?_⟩
        rw[he x (by simp [Op.operands]),hx]
        exact g2 gz R2 (λu hu=>he u (by cases hu;simp [Op.operands])) (λu hu=>he u (by cases hu))
      . rename_i sz es fr hx
        simp only[gr,hx]at h⊢
        obtain⟨val,g1,g2⟩:=MQ h rfl
        refine⟨val,g1,λgz R2 he=> ?_⟩
        rw[he x (by simp [Op.operands]),hx]
        exact g2 gz R2 (λu hu=>he u (by cases hu;simp [Op.operands])) (λu hu=>he u (by cases hu))
      . cases hq
    . rename_i t x y hn
      split at hq
      . rename_i str hx
        simp only[gr,hx]at h⊢
        obtain⟨val,g1,g2⟩:=MQ h rfl
        refine⟨val,g1,λgz R2 he=> ?_⟩
        rw[he x (by simp [Op.operands]),hx]
        exact g2 gz R2 (λu hu=>he u (by cases hu)) (λu hu=>he u (by cases hu;simp [Op.operands]))
      . rename_i sz es fr hx
        simp only[gr,hx]at h⊢
        obtain⟨val,g1,g2⟩:=MQ h rfl
        refine⟨val,g1,λgz R2 he=> ?_⟩
        rw[he x (by simp [Op.operands]),hx]
        exact g2 gz R2 (λu hu=>he u (by cases hu)) (λu hu=>he u (by cases hu;simp [Op.operands]))
      . cases hq
    . rename_i t x y hn
      split at hq
      . rename_i sz es fr hx
        simp only[gr,hx]at h⊢
        split at h
        . rename_i k n hy
          unfold Vl at h⊢
          split at h
          . rename_i ht
            simp only[dd]at h
            refine⟨_,h.2,λgz R2 he=> ?_⟩
            simp only[he x (by simp [Op.operands]),he y (by simp [Op.operands]),hx,hy,ht,dd]
            exact⟨h.1,trivial,trivial⟩
          . simp only[dd]at h
            exact h.2.elim
          . exact h.elim
        . exact h.elim
      . cases hq
    . rename_i t x hn
      split at hq
      . rename_i sz es i off hx
        simp only[gr,hx]at h⊢
        unfold wN at h⊢
        split at h
        . exact h.elim
        . rename_i ti ht
          simp only[dd]at h
          obtain⟨d,g1,g2⟩:=Vw h.2
          refine⟨d,g1,λgz R2 he=> ?_⟩
          simp only[he x (by simp [Op.operands]),hx,ht,dd]
          exact⟨h.1,g2 _ (by simp)⟩
      . cases hq
    . rename_i args dj hn
      split at hq
      . rename_i x fv
        have hxm:x∈(Op.call {callee:= .builtin .len,args:=args,argTypes:=dj}).operands:=by simp [Op.operands,Call.operands];rw[<-gO,fv];simp
        simp only[gr,fv]at h⊢
        split at h
        . rename_i y t e1 e2
          cases e1
          rw[e2]at*
          split at hq
          . rename_i str hx
            simp only[hx]at h⊢
            unfold sW at h⊢
            split at h
            . simp only at h
              exact⟨_,h,λgz R2 he=>by simp only[he x hxm,hx];simp⟩
            . exact h.elim
            . exact h.elim
          . rename_i sz es fr hx
            simp only[hx]at h⊢
            unfold sW at h⊢
            split at h
            . exact h.elim
            . simp only at h
              exact⟨_,h,λgz R2 he=>by simp only[he x hxm,hx];simp⟩
            . exact h.elim
          . cases hq
        . exact h.elim
      . cases hq
    . cases hq
theorem Z9h{env:List (Nat×D)}(h:lK env op=some q){a:Nat}(ha:Operand.tmp a∈op.operands):a∈q:=by
 unfold lK at h
 split at h
 ·cases h;exact Zpe (by assumption) ha
 ·split at h
  all_goals first
   |(cases h;done)
   |(cases h;rw[AL];simpa[Op.operands]using ha)
   |(split at h<;>first|(cases h;done)|(cases h;rw[AL];simpa[Op.operands]using ha))
   |skip
  split at h
  ·rename_i x hx
   have jC:Operand.tmp a=x:=by
    simp[Op.operands,Call.operands]at ha
    rw[<-gO,hx]at ha
    simpa using ha
   split at h<;>first|(cases h;done)|(cases h;rw[AL,jC];simp)
  ·cases h
theorem Z9e{env:List (Nat×D)}(h:lK env op=some q):r6 G op=false/\Gk op=false/\(∀t x y,op≠.store t x y)/\(∀f args dj,op≠.call ⟨.value (.func f),args,dj⟩)/\∀t,op≠.alloc t:=by
 unfold lK at h
 split at h
 ·rename_i q' hp
  obtain⟨h1,h2,h3,h4,h5⟩:=Zfn (G:=G) hp
  exact⟨h1,h2,h4,λ_ _ _=>h5 _,λt e=>by rw[e]at hp;cases hp⟩
 ·split at h<;>first|(cases h;done)|exact⟨rfl,rfl,λ_ _ _ h=>(by cases h),λ_ _ _ h=>(by cases h),λ_ h=>(by cases h)⟩
theorem Zsj(hq:lK st.env o.op=some q){K:St->Prop}(h:lO T G N M o st K):gr T o.op (cu st.env) st.rows λd R=>st.put N o.dst d R K:=by
  obtain⟨dst,op,type,pos,after,guard⟩:=o
  simp only at hq⊢
  unfold lK at hq
  split at hq
  . rename_i q' hp
    exact xx (o:=⟨dst,op,type,pos,after,guard⟩) hp h
  . split at hq
    all_goals first
      |(cases hq;done)
      |exact h
      |skip
    . rename_i op' t x y ty hn
      unfold lO at h
      simp only at h
      split at h
      . rename_i hx hy
        rw[hx]at hq;cases hq
      . rename_i hx hy
        rw[hx]at hq;cases hq
      . exact h
    . rename_i s d x hn
      unfold lO at h
      simp only at h
      split at h
      . exfalso
        unfold wg at h
        split at h
        . split at h
          . rename_i he
            split at hq
            . rename_i hx;rw[hx]at he;cases he
            . rename_i hx;rw[hx]at he;cases he
            . cases hq
          . exact h
        . exact h
      . exact h
theorem Zhc(h:J1 d=true):uU d=true:=by cases d<;>first|rfl|cases h
theorem Z9d{ks:List Nat}{d p:D}(hp:uU p=true)(h:d.j0 ks=p):d=p:=by
 subst h
 cases d<;>first
  |rfl
  |(simp only[D.j0,D.kill,D.fe]at hp⊢;split at hp<;>first|(cases hp;done)|simp_all)
  |(simp only[D.j0,D.kill,uU]at hp⊢;rw[Qof hp])
  |(simp[D.j0,uU]at hp;done)
theorem Zu9{env mi:List (Nat×D)}(h:lK env op=some q)(hb: ∀a∈q,uU (look env a)=true->look mi a=look env a):lK mi op=some q:=by
  have one: ∀(x:Operand),(∀a,x= .tmp a->a∈q)->uU (cu env x)=true->cu mi x=cu env x:=λx hx hs=>by
    cases x with
    |tmp a=>exact hb a (hx a rfl) hs
    |_=>rfl
  unfold lK at h⊢
  split at h
  . exact h
  . split at h
    all_goals first
      |(cases h;done)
      |exact h
      |skip
    all_goals
      split at h
      all_goals first
        |(cases h;done)
        | (rename_i hx
           cases h
           first
             |(have:=one _ (λa e=>by rw[AL,<-e];exact eW) (by rw[hx];rfl);rw[this,hx])
             |(have:=one _ (λa e=>by rw[AL,<-e];simp) (by rw[hx];rfl);rw[this,hx]))
        |skip
    split at h
    all_goals first
      |(cases h;done)
      | (rename_i hx
         cases h
         have:=one _ (λa e=>by rw[AL,<-e];exact eW) (by rw[hx];rfl);rw[this,hx])
theorem qy{t tx:TypeId}{x y:D}{K:List Nat->D->Rows->Prop}(h:Mt T M t tx x y R K):
 Mt T M t tx x y R λks d R'=>((J1 x=true->ks=[]/\∀r row,R.getD r none=some row->R'.getD r none=some row)/\∀r row,R.getD r none=some row->da r ks=false->R'.getD r none=some (row.kill ks))/\K ks d R':=by
 have go:∀{e sz lF:Nat} {J2:List Nat} {es ys:ai},(J1 x=true->J2=[])->Z8 e sz lF R J2 es ys K->Z8 e sz lF R J2 es ys λks d R'=>((J1 x=true->ks=[]/\∀r row,R.getD r none=some row->R'.getD r none=some row)/\∀r row,R.getD r none=some row->da r ks=false->R'.getD r none=some (row.kill ks))/\K ks d R':=by
  intro e sz lF J2 es ys hx h
  simp only[Z8,dd,nk]at h⊢
  have key:∀r row,R.getD r none=some row->da r J2=false->(rR J2 R 0++[some (⟨false,e,sz,es.app ys⟩:Row)]).getD r none=some (row.kill J2):=λr row hr hm=>by
   have hl:r<R.length:=by
    by_cases hh:r<R.length
    ·exact hh
    ·simp only[aV,aJ (show R.length<=r by omega)]at hr;cases hr
   rw[Qqm (by rw[JB];exact hl),QI,hr,Nat.zero_add,hm]
   simp
  refine⟨h.1,⟨λe=>⟨hx e,λr row hr=>?_⟩,key⟩,h.2⟩
  have:=key r row hr (by rw[hx e];rfl)
  rw[this,hx e,Z9c]
 unfold Mt at h⊢
 split at h
 ·split at h
  ·split at h
   ·rename_i jU
    simp only[dd]at h⊢
    refine⟨h.1,?_⟩
    have h:=h.2
    cases x<;>first|(exact h.elim;done)|(exact go (λ_=>rfl) h;done)|skip
    all_goals
     (try simp only at h⊢)
     split at h
     ·exact⟨h.1,go (λe=>by cases e) h.2⟩
     ·exact h.elim
   ·exact h.elim
  ·exact h.elim
 ·exact h.elim
theorem Zu3(hT:ji P T)(hG:jB P G){l:List Oper}{K:St->Prop}(h:lW T G N M ops (o::l) st K):
    ∃ks val R' iH,(∀t,look iH t=look (r4 ks st.env) t)/\(∀t,o.dst=some t->t<N)/\nC P G M ops o st.env st.rows ks val R'/\lW T G N M ops l ⟨r5 iH o.dst val,R'⟩ K/\J0 P G o st.env st.rows ks val R':=by
  by_cases hL: ∃t a r ii off,o.guard=none/\o.op= .load t (.tmp a)/\look st.env a= .ptr r ii off
  . obtain⟨t,a,r,ii,off,hg,ho,ha⟩:=hL
    simp only[lW,hg,lO,ho,gr,cu,ha]at h
    obtain⟨d,h1,h2,h3⟩:=Zla h
    obtain⟨g1,g2⟩:=oI h1
    have hN: ∀(ev:Operand->D) (R2:Rows),ev (.tmp a)= .ptr r ii off->R2.getD r none=st.rows.getD r none->pJ P o ev R2 d R2:=λev R2 he uH=>by
      have:=h3 R2 uH
      obtain⟨val,R',⟨rfl,rfl⟩,hO⟩:=Nx hT o ev R2 (λd' R'=>d'=d/\R'=R2) (by simp only[ho,gr,he];exact this)
      simpa [ho,Gk] using hO
    have hN2: ∀(ev:Operand->D) (R2:Rows) row (L:List (List Nat)),pA d=true->(∀kk∈L,d.fe kk=d)->ev (.tmp a)= .ptr r ii off->st.rows.getD r none=some row->R2.getD r none=some (L.foldl (λr k=>Row.kill k r) row)->pJ P o ev R2 d R2:=λev R2 row L hd hL he hr uH=>by
      have:=Zu1 (h3 st.rows rfl) hd hL hr uH
      obtain⟨val,R',⟨rfl,rfl⟩,hO⟩:=Nx hT o ev R2 (λd' R'=>d'=d/\R'=R2) (by simp only[ho,gr,he];exact this)
      simpa [ho,Gk] using hO
    refine⟨[],d,st.rows,st.env,λt=>oG.symm,g1,?_,g2,λt' a' r' me iL _ jo jC=> ?_,λt' b x r' me iL _ jo=> ?_,λq _ hq=> ?_,λf args dj _ hf _=>by simp [ho]at hf,λt' _ hf=>by simp [ho]at hf,λargs dj _ hf=>by simp [ho]at hf,λargs dj x' l' _ hf=>by simp [ho]at hf⟩
    . unfold nC
      simp only[hg]
      exact AS (by rw[ho];rfl) (hN _ _ (by simp [cu,ha]) rfl)
    . rw[ho]at jo;cases jo
      rw[ha]at jC;cases jC
      exact⟨rfl,rfl,h2,hN,hN2⟩
    . rw[ho]at jo;cases jo
    . rw[ho]at hq;simp [lK,rC,cu,ha]at hq
  . by_cases hS : ∃t b x r ii off,o.guard=none/\o.op= .store t (.tmp b) x/\look st.env b= .ptr r ii off
    . obtain⟨t,b,x,r,ii,off,hg,ho,hb⟩:=hS
      simp only[lW,hg,lO,ho,gr]at h
      rw[show cu st.env (.tmp b)= .ptr r ii off by simp [cu,hb]]at h
      obtain⟨R',h1,h2,h3⟩:=Zfc h
      obtain⟨g1,g2⟩:=oI h1
      obtain⟨val,R2,⟨rfl,rfl⟩,hO⟩:=Nx hT o (cu st.env) st.rows (λd' R2=>d'= .dead/\R2=R') (by simp only[ho,gr];rw[show cu st.env (.tmp b)= .ptr r ii off by simp [cu,hb]];exact h3)
      refine⟨[], .dead,R2,st.env,λt=>oG.symm,g1,?_,g2,λt' a' r' me iL _ jo=> ?_,λt' b' x' r' me iL _ jo rJ=> ?_,λq _ hq=> ?_,λf args dj _ hf _=>by simp [ho]at hf,λt' _ hf=>by simp [ho]at hf,λargs dj _ hf=>by simp [ho]at hf,λargs dj x' l' _ hf=>by simp [ho]at hf⟩
      . unfold nC
        simp only[hg]
        have hO':Es P o (cu st.env) st.rows .dead R2:=by simpa [ho,Gk] using hO
        exact Z9 (by rw[ho];rfl) (λk hk=>by simp [da]at hk) hO'.toK
      . rw[ho]at jo;cases jo
      . rw[ho]at jo;cases jo
        rw[hb]at rJ;cases rJ
        exact⟨rfl,h2⟩
      . rw[ho]at hq;cases hq
    . by_cases hP : ∃q,o.guard=none/\lK st.env o.op=some q
      . obtain⟨q,hg,hq⟩:=hP
        simp only[lW,hg]at h
        have rH:=Zsj hq h
        obtain⟨val,Jae,Jaf⟩:=yx hq rH
        obtain⟨hW,hS',Nq,hnc,hna⟩:=Z9e (G:=G) hq
        have hN: ∀(ev:Operand->D) (R2:Rows),(∀x∈o.op.operands,ev x=cu st.env x)->pJ P o ev R2 val R2:=λev R2 he=>by
          obtain⟨Jay,R',⟨rfl,rfl⟩,hO⟩:=Nx hT o ev R2 _ (Jaf ev R2 he)
          simpa [hS'] using hO
        obtain⟨g1,g2⟩:=oI Jae
        refine⟨[],val,st.rows,st.env,λt=>oG.symm,g1,?_,g2,λt' a' r' me iL hg' jo jC=>(hL ⟨t',a',r',me,iL,hg',jo,jC⟩).elim,λt' b' x' r' me iL _ jo=>(Nq _ _ _ jo).elim,λq' _ FL=>⟨rfl,rfl,hN⟩,λf args dj _ hf _=>(hnc _ _ _ hf).elim,λt' _ hf=>(hna _ hf).elim,λargs dj _ hf=>by rw[hf]at hq;simp [lK,rC]at hq,λargs dj x' l' _ hf=>by rw[hf]at hq;simp [lK,rC]at hq⟩
        unfold nC
        simp only[hg]
        exact AS hW (hN _ _ (λ_ _=>rfl))
      . by_cases hC: ∃f args dj,o.guard=none/\o.op= .call ⟨.value (.func f),args,dj⟩/\(oX G f=none/\BL G f=false)
        . obtain⟨f,args,dj,hg,ho,lN,Er⟩:=hC
          obtain⟨dst,op,type,pos,after,guard⟩:=o
          simp only at hg ho
          subst hg;subst ho
          simp only[lW,lO,lN,Er]at h
          have Il: ∀x,oJ G f=some x->x.oZ=false:=λx hx=>by simpa [BL,hx] using Er
          obtain⟨val,R',x,hK,hx,hO,hN⟩:=WJ (dst:=dst) (type:=type) (pos':=pos) (after:=after) (guard:=none) (dj:=dj) hG lN h
          obtain⟨g1,g2⟩:=oI hK
          refine⟨[],_,_,st.env,λt=>oG.symm,g1,?_,g2,λt' a' r' me iL _ jo=>(by cases jo),λt' b' x' r' me iL _ jo=>(by cases jo),λq' _ FL=>(by cases FL),λ_ _ _ _ _ _=>rfl,λt' _ hf=>(by cases hf),λargs dj _ hf=>(by cases hf),λargs dj x' l' _ hf=>(by cases hf)⟩
          unfold nC
          cases hr:x.refs with
          |nil=>exact AS (by simp only[r6,hx,hr,Il x hx]) (hN hr)
          |cons b bs=>exact Z9 (by simp only[r6,hx,hr]) (λk hk=>by simp [da]at hk) hO.toK
        . by_cases hAl: ∃t,o.guard=none/\o.op= .alloc t
          . obtain⟨t,hg,ho⟩:=hAl
            obtain⟨dst,op,type,pos,after,guard⟩:=o
            simp only at hg ho
            subst hg;subst ho
            simp only[lW,lO,gr]at h
            split at h
            . rename_i ht
              simp only[dd,aE,KH]at h
              obtain⟨⟨h0,hl⟩,h⟩:=h
              obtain⟨g1,g2⟩:=oI h
              obtain⟨arr,hA⟩:=Zv2 (o:=⟨dst, .alloc t,type,pos,after,none⟩) hT rfl ht (lE h0) (bE hl)
              refine⟨[],_,_,st.env,λt=>oG.symm,g1,?_,g2,λt' a' r' me iL _ jo=>(by cases jo),λt' b' x' r' me iL _ jo=>(by cases jo),λq' _ FL=>(by cases FL),λ_ _ _ _ hf=>(by cases hf),λt' _ hf=>⟨rfl,_,arr,hA,rfl,rfl⟩,λargs dj _ hf=>(by cases hf),λargs dj x' l' _ hf=>(by cases hf)⟩
              unfold nC
              exact AS rfl (QS λc w a hm SZ ei=>⟨_,rfl,Zr0 hT ht (lE h0) (bE hl) st.rows.length c w⟩)
            . exact h.elim
          by_cases hAp: ∃args dj,o.guard=none/\o.op= .call ⟨.builtin .append,args,dj⟩
          . obtain⟨args,dj,hg,ho⟩:=hAp
            obtain⟨dst,op,type,pos,after,guard⟩:=o
            simp only at hg ho
            subst hg;subst ho
            simp only[lW,lO]at h
            split at h
            . rename_i x y t tx o7 ht
              have J3:args= #[x,y]:=by rw[<-bW (xs:=args),o7]
              have ui:dj= #[t,tx]:=by rw[<-bW (xs:=dj),ht]
              subst J3;subst ui
              have h':=qy h
              obtain⟨ks,R',⟨⟨Jag,CG⟩,hK⟩,hM,hr⟩:=Zrv (ty:=type) hT h'
              rw[Ik]at hK
              obtain⟨h1,h2⟩:=oI hK
              refine⟨ks,_,_,_,λt=>rfl,h1,?_,h2,λt' a' r' me iL _ jo=>(by cases jo),λt' b' x' r' me iL _ jo=>(by cases jo),λq' _ FL=>(by cases FL),λ_ _ _ _ hf=>(by cases hf),λt' _ hf=>(by cases hf),λargs dj _ hf r row hr hm=>CG r row hr hm,λargs dj x' l' _ hf ha he=> ?_⟩
              rotate_left
              . cases hf
                have hx:x= .tmp x':=by
                  have:=congrArg List.head? ha
                  simpa using this
                subst hx
                exact Jag he
              unfold nC
              refine Z9 rfl hM λc w a hm hb hR ei K' Q pW=> ?_
              obtain⟨v',w',c',im,hn,j6,hv⟩:=hr c w _ _ hm hb hR (ei x (by simp [Op.operands,Call.operands])) (ei y (by simp [Op.operands,Call.operands]))
              refine Gl ?_ (pW v' w' c' hn j6 hv)
              simp only[execOp,resolve,Sem.run_bind,Sem.run_pure,Result.andThen_ok,invoke,builtin]
              have:(#[x,y]:Array Operand).map a.eval= #[a.eval x,a.eval y]:=by simp
              rw[this,im];rfl
            . exact h.elim
          obtain⟨ks,val,R',iH,h0,h1,h2,h3⟩:=Wq hT hG h
          exact⟨ks,val,R',iH,h0,h1,h2,h3,λt a r ii off hg ho ha=>(hL ⟨t,a,r,ii,off,hg,ho,ha⟩).elim,λt b x r ii off hg ho hb=>(hS ⟨t,b,x,r,ii,off,hg,ho,hb⟩).elim,λq hg hq=>(hP ⟨q,hg,hq⟩).elim,λf args dj hg ho lN=>(hC ⟨f,args,dj,hg,ho,lN⟩).elim,λt hg ho=>(hAl ⟨t,hg,ho⟩).elim,λargs dj hg ho=>(hAp ⟨args,dj,hg,ho⟩).elim,λargs dj x l' hg ho ha he=>(hAp ⟨args,dj,hg,ho⟩).elim⟩
theorem RB(h:pA d=true):uU d=true:=by cases d<;>first|rfl|exact h|cases h
theorem xy{ks:List Nat}(h:d.j0 ks=.ptr r i off):d=.ptr r i off:=Z9d rfl h
theorem J4{i a k:Nat}(h:kY ops i a=true)(hk:i<=k)(ho:ops[k]?=some o):o.dst≠some a:=by
 intro hd
 have hm:o∈ops.toList.drop i:=by
  have h1:(ops.toList.drop i)[k-i]?=some o:=by
   rw[List.getElem?_drop,show i+(k-i)=k by omega];simpa using ho
  exact fO h1
 have:=List.all_eq_true.1 h o hm
 simp[hd]at this
theorem Zti{f:FuncId}(h:(match oX G f with|some _=>true|none=>BL G f)=false):oX G f=none/\BL G f=false:=by
 cases hg:oX G f with
 |none=>rw[hg]at h;exact⟨rfl,h⟩
 |some k=>rw[hg]at h;cases h
def J5(ops:Array Oper)(env:List (Nat×D))(i:Nat)(o:Oper)(q:List Nat):Prop:=
 (∀a∈q,kY ops i a=true/\uU (look env a)=true)/\∀t,o.dst=some t->kY ops (i+1) t=true/\uU (look env t)=true
theorem RC{env:List (Nat×D)}(hx:ops[i]?=some x)(hy:ops[j]?=some y)(h:MR G ops env i j=true):
 (∃t a t' b z r r' ii off me iL,x.guard=none/\y.guard=none/\x.op=.load t (.tmp a)/\y.op=.store t' (.tmp b) z/\kY ops i a=true/\kY ops j b=true/\look env a=.ptr r ii off/\look env b=.ptr r' me iL/\r≠r')\/
 (∃q,x.guard=none/\y.guard=none/\lK env x.op=some q/\(∀a∈q,kY ops i a=true)/\((∃t' b z r' me iL,y.op=.store t' (.tmp b) z/\kY ops j b=true/\look env b=.ptr r' me iL)\/∃f args dj,y.op=.call ⟨.value (.func f),args,dj⟩/\(oX G f=none/\BL G f=false)))\/
 (∃q,x.guard=none/\lK env x.op=some q/\J5 ops env i x q)\/
 (∃t a r ii off args dj x0 l,x.guard=none/\y.guard=none/\x.op=.load t (.tmp a)/\kY ops i a=true/\look env a=.ptr r ii off/\y.op=.call ⟨.builtin .append,args,dj⟩/\args.toList=.tmp x0::l/\kY ops j x0=true/\J1 (look env x0)=true)\/
 (∃t a r ii off args dj td,x.guard=none/\y.guard=none/\x.op=.load t (.tmp a)/\kY ops i a=true/\look env a=.ptr r ii off/\y.op=.call ⟨.builtin .append,args,dj⟩/\x.dst=some td/\kY ops (i+1) td=true/\pA (look env td)=true):=by
 unfold MR at h
 simp only[hx,hy]at h
 split at h
 ·rename_i t a t' b z h1 h2 h3 h4
  simp only[aE]at h
  obtain⟨g1,g2,g3⟩:=h
  split at g3
  ·rename_i r ii off r' me iL e1 e2
   refine .inl ⟨t,a,t',b,z,r,r',ii,off,me,iL,h1,h2,h3,h4,g1,g2,e1,e2,λe=>?_⟩
   subst e
   simp at g3
  ·rename_i sz es k off r' me iL e1 e2
   exact .inr (.inl ⟨[a],h1,h2,by rw[h3];simp[lK,rC,cu,e1,lT],λa' ha=>by simp at ha;subst ha;exact g1,.inl ⟨t',b,z,r',me,iL,h4,g2,e2⟩⟩)
  ·cases g3
 ·rename_i op t' b z h1 h2 h4 _
  split at h
  ·rename_i q hq
   simp only[aE]at h
   obtain⟨g1,g2,g3⟩:=h
   split at g3
   ·rename_i r' me iL e2
    exact .inr (.inl ⟨q,h1,h2,hq,λa ha=>List.all_eq_true.1 g1 a ha,.inl ⟨t',b,z,r',me,iL,h4,g2,e2⟩⟩)
   ·cases g3
  ·cases h
 ·rename_i op f dj h1 h2 h4
  split at h
  ·cases h
  ·rename_i Iv
   have Jah:=Zti Iv
   split at h
   ·rename_i q hq
    exact .inr (.inl ⟨q,by assumption,by assumption,hq,λa ha=>List.all_eq_true.1 h a ha,.inr ⟨_,_,_,by assumption,Jah⟩⟩)
   ·cases h
 ·rename_i op args dj h1 h2 h4 _
  split at h
  ·rename_i q hq
   simp only[aE]at h
   refine .inr (.inr (.inl ⟨q,by assumption,hq,λa ha=>?_,λt ht=>?_⟩))
   ·have:=List.all_eq_true.1 h.1 a ha
    simpa only[aE]using this
   ·have:=h.2
    simp only[ht,aE]at this
    exact this
  ·have RD:∀{d:D},uV d=true->∃r ii off,d=.ptr r ii off:=fun{d} k=>by
    cases d<;>first|(cases k;done)|exact⟨_,_,_,rfl⟩
   rcases Bool.or_eq_true_iff.1 h with h|h
   ·unfold Di at h
    split at h
    ·rename_i t a x0 l hxo hl
     simp only[aE]at h
     obtain⟨k1,k2,k3,k4⟩:=h
     obtain⟨r,ii,off,hr⟩:=RD k3
     exact .inr (.inr (.inr (.inl ⟨t,a,r,ii,off,dj,h1,x0,l,by assumption,by assumption,hxo,k1,hr,by assumption,hl,k2,k4⟩)))
    ·cases h
   ·unfold Dj at h
    split at h
    ·rename_i t a td hxo tT
     simp only[aE]at h
     obtain⟨k1,k2,k3,k4⟩:=h
     obtain⟨r,ii,off,hr⟩:=RD k2
     exact .inr (.inr (.inr (.inr ⟨t,a,r,ii,off,dj,h1,td,by assumption,by assumption,hxo,k1,hr,by assumption,tT,k3,k4⟩)))
    ·cases h
 ·cases h
theorem Zo2(hy:ops[j]?=some y)(h:uW ops j=true):(∃t,y.guard=none/\y.op=.alloc t)/\∀u,y.dst=some u->∀k o',k≠j->ops[k]?=some o'->o'.dst≠some u:=by
 unfold uW at h
 simp only[hy]at h
 split at h
 ·rename_i t h1 h2
  refine⟨⟨t,h1,h2⟩,λu hu k o' hk dy hd=>?_⟩
  simp only[hu]at h
  have bd:=(Array.getElem?_eq_some_iff.1 dy).1
  have:=List.all_eq_true.1 h k (List.mem_range.2 bd)
  simp only[dy,aW,hd,aT]at this
  rcases this with this|this
  ·exact hk (bE this)
  ·simp at this
 ·cases h
theorem FM{env:List (Nat×D)}(h:RE G ops env=true)(Kq:i<j)(hx:ops[i]?=some x)(hy:ops[j]?=some y):
 (x.apart ops y=true\/((Region.before ops).getD j 0).testBit i=true)/\((lg G x.op=true/\lg G y.op=true)\/((Region.before ops).getD j 0).testBit i=true\/MR G ops env i j=true\/((∃t,y.guard=none/\y.op=.alloc t)/\∀u,y.dst=some u->∀k o',k≠j->ops[k]?=some o'->o'.dst≠some u)):=by
 have hj:=(Array.getElem?_eq_some_iff.1 hy).1
 have h1:=List.all_eq_true.1 h j (List.mem_range.2 hj)
 simp only[aE]at h1
 have h2:=List.all_eq_true.1 h1.2 i (List.mem_range.2 Kq)
 unfold wT at h2
 simp only[hx,hy,aE,aT]at h2
 exact⟨h2.1,h2.2.elim (λg=>g.elim .inl (λg=>.inr (.inl g))) (λg=>g.elim (λg=>.inr (.inr (.inl g))) (λg=>.inr (.inr (.inr (Zo2 hy g)))))⟩
theorem Zju{env:List (Nat×D)}(h:RE G ops env=true)(hy:ops[j]?=some y):∀e∈y.after,Region.binds .any e=true->e.on<j:=by
 have hj:=(Array.getElem?_eq_some_iff.1 hy).1
 have h1:=List.all_eq_true.1 h j (List.mem_range.2 hj)
 simp only[aE,hy]at h1
 intro e he hb
 have:=Array.all_eq_true'.1 h1.1 e he
 simp only[hb,Bool.not_true,Bool.false_or]at this
 exact lE this
theorem qax{env:List (Nat×D)}{ks:List Nat}{val:D}{R':Rows}(hi:ops[i]?=some o)
 (hm:Mem c w) (hb:c.base<=w.heap.size) (hR:∀r,c.R r=R.getD r none) (ei:∀t∈o.looksAt ops,Rep c w (look env t) (a.tmps.getD t undef)) (hG:nC P G M ops o env R ks val R') {K:Act->World->Prop} {Q:Exit->Act->World->Prop}
 (hK:∀v w' c',(∀k,da k ks=true->M<=k)->jL ks c w c' w'->(∀r,c'.R r=R'.getD r none)->Rep c' w' val v->K (a.put o.dst v) w'):wpOp P ops Q i K a w:=by
 have hx:∀x∈o.op.operands,Rep c w (cu env x) (a.eval x):=λx hx=>by
  cases x with
  |tmp t=>
   refine ei t ?_
   unfold Oper.looksAt
   exact eU _ (List.mem_filterMap.2 ⟨.tmp t,by simpa using hx,rfl⟩)
  |const v=>
   simp only[cu,Act.eval]
   cases hv:Gd v with
   |none=>trivial
   |some d=>exact Ns hv c w
  |global g=>trivial
  |func f=>exact Kw f
 have run:pE P G M o (cu env) R ks val R'->o.nj P a w K Q:=λhX=>hX.toK.2 c w a hm hb hR hx K Q λv w' c' h1 h2 h3=>hK v w' c' hX.toK.1 h1 h2 h3
 have skip:ks=[]->val=.dw []->R'=R->K (a.put o.dst undef) w:=λe0 e1 e2=>by
  subst e0;subst e1;subst e2
  exact hK undef w c (λk hk=>by simp[da]at hk) (lM.toK ⟨hm,Q4.refl _ _,Fr.refl _ _,λb hb=>.inl hb,λr row hr v=>.inl ⟨⟨row,hr⟩,v,rfl⟩⟩) hR (S0 _ _)
 unfold wpOp
 simp only[hi]
 unfold nC at hG
 cases hg:o.guard with
 |none=>
  simp only[hg]at hG
  have hw:Region.wanted o (yielded ops a.tmps)=true:=by simp[Region.wanted,hg]
  rw[if_pos hw]
  exact run hG
 |some jw=>
  obtain⟨j,want⟩:=jw
  simp only[hg]at hG
  obtain⟨g,h2,hG⟩:=hG
  have hr:=ei g (by
   unfold Oper.looksAt
   refine eZ _ ?_
   simp only[hg,h2];simp)
  rcases hG with⟨b,h3,h4⟩|⟨h3,e0,e1,e2⟩
  rotate_left
  ·rw[h3]at hr
   rw[if_neg (by rw[S1 (o:=o) hg h2 hr];simp)]
   exact skip e0 e1 e2
  rw[h3]at hr
  have hw:=S2 (o:=o) hg h2 hr
  by_cases e:b=want
  ·rw[if_pos e]at h4
   rw[if_pos (by rw[hw];simpa using e)]
   exact run h4
  ·rw[if_neg e]at h4
   rw[if_neg (by rw[hw];simpa using e)]
   exact skip h4.1 h4.2.1 h4.2.2
structure Vy(P:Program)(G:List bb)(N M:Nat)(ops:Array Oper)(s:Nat->St)(ks:Nat->List Nat)(val:Nat->D):Prop extends Chain P G N M ops s ks val where
 mC:∀(i:Nat) (o:Oper),ops[i]?=some o->J0 P G o (s i).env (s i).rows (ks i) (val i) (s (i+1)).rows
theorem Zm1{P:Program}{T:iy}(hT:ji P T){G:List bb}(hG:jB P G){N M:Nat}{ops:Array Oper}{K:St->Prop}:∀(l:List Oper) (k:Nat) (st:St),ops.toList.drop k=l->lW T G N M ops l st K->
 ∃ (s:Nat->St) (ks:Nat->List Nat) (val:Nat->D),s k=st/\K (s (k+l.length))/\(∀(i:Nat) (o:Oper),k<=i->ops[i]?=some o->nC P G M ops o (s i).env (s i).rows (ks i) (val i) (s (i+1)).rows)/\
  (∀(i:Nat) (o:Oper) (t:Nat),k<=i->ops[i]?=some o->look (s (i+1)).env t=if o.dst=some t then val i else look (r4 (ks i) (s i).env) t)/\(∀(i:Nat) (o:Oper) (t:Nat),k<=i->ops[i]?=some o->o.dst=some t->t<N)/\
  (∀(i:Nat) (o:Oper),k<=i->ops[i]?=some o->J0 P G o (s i).env (s i).rows (ks i) (val i) (s (i+1)).rows)
 |[],k,st,hk,h=>by
  have hlen:ops.size<=k:=by
   have:=congrArg List.length hk
   simp at this;omega
  have no:∀(i:Nat) (o:Oper),k<=i->ops[i]?=some o->False:=λi o hi ho=>by
   have:=(Array.getElem?_eq_some_iff.1 ho).1;omega
  exact⟨λ_=>st,λ_=>[],λ_=>.dead,rfl,h,λi o hi ho=>(no i o hi ho).elim,λi o t hi ho=>(no i o hi ho).elim,λi o t hi ho=>(no i o hi ho).elim,λi o hi ho=>(no i o hi ho).elim⟩
 |o ::l,k,st,hk,h=>by
  have bd:k<ops.toList.length:=by
   by_cases bd:k<ops.toList.length
   ·exact bd
   ·rw[List.drop_eq_nil_of_le (by omega)]at hk;cases hk
  rw[List.drop_eq_getElem_cons bd]at hk
  have ho:ops[k]?=some o:=by
   have:=(List.cons.inj hk).1
   rw[<-this]
   simp at bd
   simp[bd]
  obtain⟨kk,v,R',iH,h1,h2,h3,h4,h5⟩:=Zu3 hT hG h
  obtain⟨s,ks,val,g1,g2,g3,g4,g5,g6⟩:=Zm1 hT hG l (k+1) _ (List.cons.inj hk).2 h4
  refine⟨λi=>if i=k then st else s i,λi=>if i=k then kk else ks i,λi=>if i=k then v else val i,by simp,?_,λi p hi hp=>?_,λi p t hi hp=>?_,λi p t hi hp hd=>?_,λi p hi hp=>?_⟩
  ·simp only[List.length_cons]
   rw[if_neg (by omega),show k+(l.length+1)=k+1+l.length by omega]
   exact g2
  ·by_cases e:i=k
   ·subst e
    rw[ho]at hp;cases hp
    simp only[if_true,show¬i+1=i by omega,if_false,g1]
    exact h3
   ·simp only[if_neg e,if_neg (show¬i+1=k by omega)]
    exact g3 i p (by omega) hp
  ·by_cases e:i=k
   ·subst e
    rw[ho]at hp;cases hp
    simp only[if_true,show¬i+1=i by omega,if_false,g1]
    cases tT:o.dst with
    |none=>simp[r5,h1]
    |some u=>simp only[r5,AR,Option.some.injEq,h1]
   ·simp only[if_neg e,if_neg (show¬i+1=k by omega)]
    exact g4 i p t (by omega) hp
  ·by_cases e:i=k
   ·subst e
    rw[ho]at hp;cases hp
    exact h2 t hd
   ·exact g5 i p t (by omega) hp hd
  ·by_cases e:i=k
   ·subst e
    rw[ho]at hp;cases hp
    simp only[if_true,show¬i+1=i by omega,if_false,g1]
    exact h5
   ·simp only[if_neg e,if_neg (show¬i+1=k by omega)]
    exact g6 i p (by omega) hp
section
variable {P:Program} {G:List bb} {N M:Nat} {ops:Array Oper} {s:Nat->St} {ks:Nat->List Nat} {val:Nat->D} (hc:Vy P G N M ops s ks val)
include hc
theorem Eh{i a r ii off:Nat}(hn:kY ops i a=true)(h:look (s ops.size).env a=.ptr r ii off):∀{k:Nat},i<=k->k<=ops.size->look (s k).env a=.ptr r ii off:=by
 intro k nZ hk
 obtain⟨n,Rr⟩:∃n,ops.size=k+n:=⟨ops.size-k,by omega⟩
 have:∀n k,i<=k->k+n<=ops.size->look (s (k+n)).env a=.ptr r ii off->look (s k).env a=.ptr r ii off:=by
  intro n
  induction n with
  |zero=>intro k _ _ h;exact h
  |succ n ih=>
   intro k h1 h2 h3
   have ho:ops[k]?=some ops[k]:=aU (by omega)
   have h4:=ih (k+1) (by omega) (by omega) (by rw[show k+1+n=k+(n+1) by omega];exact h3)
   rw[hc.env k _ a ho,if_neg (J4 hn h1 ho),BK]at h4
   exact xy h4
 exact this n k nZ (by omega) (by rw[<-Rr];exact h)
theorem Ei{i a:Nat}(hn:kY ops i a=true)(h:uU (look (s ops.size).env a)=true):∀{k:Nat},i<=k->k<=ops.size->look (s k).env a=look (s ops.size).env a:=by
 intro k nZ hk
 obtain⟨n,Rr⟩:∃n,ops.size=k+n:=⟨ops.size-k,by omega⟩
 have:∀n k,i<=k->k+n<=ops.size->∀p,uU p=true->look (s (k+n)).env a=p->look (s k).env a=p:=by
  intro n
  induction n with
  |zero=>intro k _ _ p _ h;exact h
  |succ n ih=>
   intro k h1 h2 p hp h3
   have ho:ops[k]?=some ops[k]:=aU (by omega)
   have h4:=ih (k+1) (by omega) (by omega) p hp (by rw[show k+1+n=k+(n+1) by omega];exact h3)
   rw[hc.env k _ a ho,if_neg (J4 hn h1 ho),BK]at h4
   exact Z9d hp h4
 exact this n k nZ (by omega) _ h (by rw[<-Rr])
theorem Zg3(h:lK (s ops.size).env op=some q)(hq:∀a∈q,kY ops i a=true)(h1:i<=k)(h2:k<=ops.size):lK (s k).env op=some q:=
 Zu9 h λa ha hs=>Ei hc (hq a ha) hs h1 h2
theorem Z25{dr:Nat->Bool}{c:Nat}{t:Nat}:∀{n:Nat},(∀i o,i<n->ops[c+i]?=some o->o.dst=some t->dr (c+i)=false)->jd ops s val dr c n t=look (s c).env t
 |0,_=>rfl
 |n + 1,h=>by
  simp only[jd]
  rw[if_neg]
  ·exact Z25 (λi o hi=>h i o (by omega))
  ·rintro⟨g1,g2⟩
   cases hk:ops[c+n]? with
   |none=>rw[hk]at g2;cases g2
   |some o=>
    rw[hk]at g2
    rw[h n o (by omega) hk g2]at g1;cases g1
theorem Zir{dr:Nat->Bool}{c d:Nat}{t:Nat}(hq:∀(i:Nat) (o:Oper),c<=i->i<d->ops[i]?=some o->lg G o.op=true)(hd:d<=ops.size):∀{n:Nat},c+n<=d->(∀i o,i<n->ops[c+i]?=some o->o.dst=some t->dr (c+i)=true)->jd ops s val dr c n t=look (s (c+n)).env t
 |0,_,_=>rfl
 |n +1,hn,hl=>by
  have ho:ops[c+n]?=some ops[c+n]:=aU (by omega)
  simp only[jd,ho,aW]
  rw[show c+(n+1)=(c+n)+1 by omega,hc.toChain.En ho (hq _ _ (by omega) (by omega) ho) t]
  by_cases pq:ops[c+n].dst=some t
  ·rw[if_pos ⟨hl n _ (by omega) ho pq,pq⟩,if_pos pq]
  ·rw[if_neg (λg=>pq g.2),if_neg pq]
   exact Zir hq hd (by omega) (λi o hi=>hl i o (by omega))
theorem Ze8{dr:Nat->Bool}{c d:Nat}(hq:∀(i:Nat) (o:Oper),c<=i->i<d->ops[i]?=some o->lg G o.op=true)(hd:d<=ops.size):∀{n:Nat},c+n<=d->(∀i,i<n->dr (c+i)=true\/(s (c+i+1)).rows=(s (c+i)).rows)->∀r,kB s dr c n r=(s (c+n)).rows.getD r none
 |0,_,_,r=>rfl
 |n + 1,hn,hl,r=>by
  simp only[kB]
  rw[show c+(n+1)=c+n+1 by omega]
  have hlen:=Ku hc.toChain hq hd (show c<=c+n by omega) (show c+n<=c+n+1 by omega) (by omega)
  have ih:=Ze8 hq hd (n:=n) (by omega) (λi hi=>hl i (by omega)) r
  rcases hl n (by omega)with h|h
  ·simp only[h,true_and]
   split
   ·rfl
   ·rw[ih]
    by_cases h2:r<(s (c+n)).rows.length
    ·exact(Kv hc.toChain hq hd (by omega) (by omega) (by omega) h2).symm
    ·simp only[aV]
     rw[aJ (by omega),aJ (by omega)]
  ·rw[if_neg (by rw[h];omega),ih,h]
theorem Zn0{dr:Nat->Bool}{c d:Nat}(hq:∀(i:Nat) (o:Oper),c<=i->i<d->ops[i]?=some o->lg G o.op=true)(hd:d<=ops.size){r:Nat}(hr:r<(s c).rows.length):∀{n:Nat},c+n<=d->kB s dr c n r=(s c).rows.getD r none
 |0,_=>rfl
 |n+1,hn=>by
  simp only[kB]
  have hlen:=Ku hc.toChain hq hd (show c<=c by omega) (show c<=c+n by omega) (by omega)
  rw[if_neg (by omega)]
  exact Zn0 hq hd hr (by omega)
end
structure te(w0:World)(cx:Ctx)(w:World)(b:Nat)(arr:Array Value)(ty:TypeId):Prop where
 jD:w0.heap.size<=b
 lt:b<w.heap.size
 here:w.heap[b]?=some (.cells arr ty (0,0))
 fh:¬cx.I b
 row:∀r row,cx.R r=some row->¬cx.V r->cx.ρ r≠b
theorem te.du{ks:List Nat}{ty:TypeId}(h:te w0 c w b arr ty)(n:jL ks c w c' w'):te w0 c' w' b arr ty:=by
 refine⟨h.jD,bM h.lt n.fr.size,(n.fr.heap b h.lt fun⟨r,x,h1,h2,h3⟩=>h.row r x h1 h2 h3).trans h.here,λhb=>?_,λr row hr hv e=>?_⟩
 ·rcases n.fh b hb with g|⟨s,x,_,g1,g2,g3⟩|g
  ·exact h.fh g
  ·exact h.row s x g1 g2 g3
  ·have:=h.lt;omega
 ·rcases n.oc r row hr hv with⟨⟨x,g1⟩,g2,g3⟩|⟨s,x,_,g1,g2,g3⟩|g
  ·exact h.row r x g1 g2 (by rw[<-g3];exact e)
  ·exact h.row s x g1 g2 (by rw[<-g3];exact e)
  ·have:=h.lt;omega
theorem zy(h:o.dst≠some u):(a.put o.dst v).tmps.getD u undef=a.tmps.getD u undef:=by
 cases ho:o.dst with
 |none=>simp[Act.put]
 |some x=>
  have gv:x≠u:=λe=>h (by rw[ho,e])
  simp[Act.put,aZ gv]
theorem xX{dst:Option Tmp}(h:dst=some u)(bd:u<a.tmps.size):(a.put dst v).tmps.getD u undef=v:=by
 subst h
 simp[Act.put,aY,bd]
def Z1(P:Program)(ops:Array Oper)(s:Nat->St)(val:Nat->D)(w0:World)(cx:Ctx)(w:World)(a:Act)(i b:Nat):Prop:=
 ∃ o t row arr,ops[i]?=some o/\o.guard=none/\o.op=.alloc t/\Vx P o row arr/\val i=.ptr (s i).rows.length 0 0/\(s (i+1)).rows=(s i).rows++[some row]/\te w0 cx w b arr row.ty/\
  (∀u,o.dst=some u->a.tmps.getD u undef=.pointer (some ⟨b,0,none⟩))/\∀u,o.dst=some u->∀k o',k≠i->ops[k]?=some o'->o'.dst≠some u
theorem Z1.du{ks:List Nat}(h:Z1 P ops s val w0 c w a k b)(n:jL ks c w c' w')(nZ:i≠k)(ho:ops[i]?=some o):Z1 P ops s val w0 c' w' (a.put o.dst v) k b:=by
 obtain⟨o',t,row,arr,g1,g2,g3,g4,g5,g6,g7,g8,g9⟩:=h
 exact⟨o',t,row,arr,g1,g2,g3,g4,g5,g6,g7.du n,λu hu=>by rw[zy (g9 u hu i o nZ ho)];exact g8 u hu,g9⟩
theorem Qsb(hm:Mem c w)(o:Obj):Q4 c w c (w.alloc o):=
 ⟨rfl,aX _,λb hb=>⟨hb,Ah w o b (hm.fh b hb).1⟩,λr x hr=>⟨x,hr,rfl,rfl,rfl,rfl,rfl,Iff.rfl,λnv arr ha=>⟨arr,by rw[Ah w o _ (hm.lt hr nv)];exact ha,rfl⟩⟩⟩
theorem Z11(w:World)(o:Obj):(w.alloc o).heap.size=w.heap.size+1:=by show(w.heap.push o).size=_;simp
theorem Zss(hm:Mem c w)(o:Obj):Mem c (w.alloc o):=
 ⟨λr row hr=>tw (Qsb hm o) rfl Iff.rfl (λnv=>Ah w o _ (hm.lt hr nv)) (hm.row r row hr),hm.inj,(λb hb=>⟨by have:=(hm.fh b hb).1;rw[Z11];omega,(hm.fh b hb).2⟩),by have:=hm.top;rw[Z11];omega,hm.jY.mono (Qsb hm o).I⟩
theorem Zke(hk:c.R k=none)(row:Row)(b:Nat):Q4 c w (c.add k row b) w:=by
 refine⟨rfl,aX _,λb hb=>⟨hb,rfl⟩,λr x hr=>?_⟩
 have gv:r≠k:=λe=>by rw[e,hk]at hr;cases hr
 exact⟨x,by simp[Ctx.add,gv,hr],rfl,rfl,rfl,rfl,by simp[Ctx.add,gv],by simp[Ctx.add,gv],λnv arr ha=>⟨arr,ha,rfl⟩⟩
theorem zax(hm:Mem c w)(hk:c.R k=none)(hA:Vx P o row arr)(hl:te w0 c w b arr row.ty):Mem (c.add k row b) w:=by
 have hg:=Zke (w:=w) hk row b
 have jD:∀r x,r≠k->(c.add k row b).R r=some x->c.R r=some x/\(c.add k row b).ρ r=c.ρ r/\((c.add k row b).V r↔c.V r):=λr x e h=>⟨by simpa[Ctx.add,e]using h,by simp[Ctx.add,e],by simp[Ctx.add,e]⟩
 refine⟨λr x hr=>?_,λr s x y hr hs v1 v2 he=>?_,λb' hb=>⟨(hm.fh b' hb).1,λr x hr v=>?_⟩,hm.top,hm.jY⟩
 ·by_cases e:r=k
  ·subst e
   simp only[Ctx.add,if_true,Option.some.injEq]at hr
   subst hr
   obtain⟨e,h1,h2,h3,h4⟩:=hA.cells
   refine .inr ⟨by simp[Ctx.add],arr,by simp only[Ctx.add,if_true];exact hl.here,hA.sz,?_⟩
   rw[if_pos hA.box]
   exact⟨e,h1,h2,h3,h4 _ _⟩
  ·obtain⟨g1,g2,g3⟩:=jD r x e hr
   exact tw hg g2 g3 (λ_=>rfl) (hm.row r x g1)
 ·by_cases e1:r=k<;>by_cases e2:s=k
  ·rw[e1,e2]
  ·obtain⟨g1,g2,g3⟩:=jD s y e2 hs
   exfalso
   refine hl.row s y g1 (λe=>v2 (g3.2 e)) ?_
   rw[<-g2,<-he,e1];simp[Ctx.add]
  ·obtain⟨g1,g2,g3⟩:=jD r x e1 hr
   exfalso
   refine hl.row r x g1 (λe=>v1 (g3.2 e)) ?_
   rw[<-g2,he,e2];simp[Ctx.add]
  ·obtain⟨g1,g2,g3⟩:=jD r x e1 hr
   obtain⟨k1,k2,k3⟩:=jD s y e2 hs
   exact hm.inj r s x y g1 k1 (λe=>v1 (g3.2 e)) (λe=>v2 (k3.2 e)) (by rw[<-g2,<-k2];exact he)
 ·by_cases e:r=k
  ·subst e
   simp only[Ctx.add,if_true]
   intro e;subst e
   exact hl.fh hb
  ·obtain⟨g1,g2,g3⟩:=jD r x e hr
   rw[g2];exact(hm.fh b' hb).2 r x g1 (λe=>v (g3.2 e))
def RG(ops:Array Oper)(env:List (Nat×D))(i:Nat)(o:Oper):Prop:=∃td,o.dst=some td/\kY ops (i+1) td=true/\pA (look env td)=true
def RH(ops:Array Oper)(s:Nat->St)(ks:Nat->List Nat)(i c:Nat):Prop:=
 (∃o t a r ii off row ao,ops[i]?=some o/\o.guard=none/\o.op=.load t (.tmp a)/\kY ops i a=true/\look (s ops.size).env a=.ptr r ii off/\(s i).rows.getD r none=some row/\(s c).rows.getD r none=some ao/\((ao=row/\∀k,i<k->k<c->ks k=[])\/(RG ops (s ops.size).env i o/\∃L:List (List Nat),ao=L.foldl (λr k=>Row.kill k r) row/\∀kk∈L,∃j,i<j/\j<c/\kk=ks j)))\/
 (∃o q,ops[i]?=some o/\o.guard=none/\lK (s ops.size).env o.op=some q/\(∀a∈q,kY ops i a=true)/\((∀k,i<k->k<c->ks k=[])\/J5 ops (s ops.size).env i o q))
structure Inv2(P:Program)(G:List bb)(N M:Nat)(ops:Array Oper)(s:Nat->St)(ks:Nat->List Nat)(val:Nat->D)(c0:Ctx)(w0:World)(dr:Nat->Bool)(a:Act)(w:World)(c d:Nat):Prop where
 cd:c<=d
 dn:d<=ops.size
 pre:∀i,i<c->dr i=true\/RH ops s ks i c
 quiet:∀(i:Nat) (o:Oper),c<=i->i<d->ops[i]?=some o->lg G o.op=true
 wr:∀(o:Oper),ops[d]?=some o->lg G o.op=false
 closed:∀j,dr j=true->∀(o:Oper),ops[j]?=some o->∀e∈o.after,Region.binds .any e=true->dr e.on=true
 size:N<=a.tmps.size
 defers:lY w0.heap.size w a.defers
 fy:c0.base<=w0.heap.size
 gw:∀r row,c0.R r=some row->r<M
 ctx:∃(cx:Ctx) (B:Nat->Nat),Mem cx w/\(∀r,cx.R r=kB s dr c (d-c) r)/\(∀t,(∀k o,k<c->dr k=false->ops[k]?=some o->o.dst≠some t)->(∀k o,d<=k->dr k=true->ops[k]?=some o->o.dst≠some t)->Rep cx w (jd ops s val dr c (d-c) t) (a.tmps.getD t undef))/\w6 c0 w0 cx w/\
  (∀i,d<=i->dr i=true->Z1 P ops s val w0 cx w a i (B i))/\(∀i j,d<=i->d<=j->dr i=true->dr j=true->B i=B j->i=j)
theorem Vz{t:Nat}(hs:N<=a.tmps.size)(hd:∀u,o.dst=some u->u<N)(h1:o.dst=some t->Rep c' w' d v)(h2:o.dst≠some t->Rep c' w' d (a.tmps.getD t undef)):Rep c' w' d ((a.put o.dst v).tmps.getD t undef):=by
 cases ho:o.dst with
 |none=>simpa[Act.put]using h2 (by rw[ho];simp)
 |some u=>
  by_cases e:u=t
  ·subst e
   have hu:u<a.tmps.size:=bM (hd u ho) hs
   simpa[Act.put,aY,hu]using h1 ho
  ·have:=h2 (by rw[ho];intro h;exact e (Option.some.inj h))
   simpa[Act.put,aZ e]using this
theorem RI{ks:Nat->List Nat}(hc:Vy P G N M ops s ks val){c d:Nat}
 (hq:∀(i:Nat) (o:Oper),c<=i->i<d->ops[i]?=some o->lg G o.op=true) (hd:d<=ops.size)
 (h:∃(cx:Ctx) (B:Nat->Nat),Mem cx w/\(∀r,cx.R r=(s c).rows.getD r none)/\(∀t,(∀k o,k<c->dr k=false->ops[k]?=some o->o.dst≠some t)->(∀k o,c<=k->dr k=true->ops[k]?=some o->o.dst≠some t)->Rep cx w (look (s c).env t) (a.tmps.getD t undef))/\w6 c0 w0 cx w/\
  (∀i,c<=i->dr i=true->Z1 P ops s val w0 cx w a i (B i))/\(∀i j,c<=i->c<=j->dr i=true->dr j=true->B i=B j->i=j)):
 ∀ n,c+n<=d->∃(cx:Ctx) (B:Nat->Nat),Mem cx w/\(∀r,cx.R r=kB s dr c n r)/\(∀t,(∀k o,k<c->dr k=false->ops[k]?=some o->o.dst≠some t)->(∀k o,c+n<=k->dr k=true->ops[k]?=some o->o.dst≠some t)->Rep cx w (jd ops s val dr c n t) (a.tmps.getD t undef))/\w6 c0 w0 cx w/\
  (∀i,c+n<=i->dr i=true->Z1 P ops s val w0 cx w a i (B i))/\(∀i j,c+n<=i->c+n<=j->dr i=true->dr j=true->B i=B j->i=j):=by
 have hlen:∀k l,c<=k->k<=l->l<=d->(s k).rows.length<=(s l).rows.length:=λk l h1 h2 h3=>Ku hc.toChain hq hd h1 h2 h3
 have RJ:∀n,c+n<=d->∀r,(s (c+n)).rows.length<=r->kB s dr c n r=none:=by
  intro n
  induction n with
  |zero=>intro _ r hr;simp only[kB];simp only[aB]at hr;rw[aV,aJ hr];rfl
  |succ n ih=>
   intro hn r hr
   simp only[kB]
   have:=hlen (c+n) (c+n+1) (by omega) (by omega) (by omega)
   rw[show c+(n+1)=c+n+1 by omega]at hr
   rw[if_neg (by omega)]
   exact ih (by omega) r (by omega)
 intro n
 induction n with
 |zero=>intro _;simpa only[kB,jd,aB]using h
 |succ n ih=>
  intro hn
  obtain⟨cx,B,hm,hR,hE,nY,nM,oz⟩:=ih (by omega)
  cases hl:dr (c+n)with
  |false=>
   refine⟨cx,B,hm,λr=>?_,λt ht he=>?_,nY,λi hi He=>nM i (by omega) He,λi j hi hj=>oz i j (by omega) (by omega)⟩
   ·simp only[kB,hl,aA,false_and,if_false];exact hR r
   ·simp only[jd,hl,aA,false_and,if_false]
    refine hE t ht λk o hk oC=>he k o ?_ oC
    by_cases e:k=c+n
    ·rw[e,hl]at oC;cases oC
    ·omega
  |true=>
   obtain⟨o,ty,row,arr,g1,g2,g3,g4,g5,g6,g7,g8,g9⟩:=nM (c+n) (aX _) hl
   have hk:cx.R (s (c+n)).rows.length=none:=by rw[hR];exact RJ n (by omega) _ (aX _)
   have hg:=Zke (w:=w) hk row (B (c+n))
   refine⟨cx.add (s (c+n)).rows.length row (B (c+n)),B,zax hm hk g4 g7,λr=>?_,λt ht he=>?_,⟨nY.cz.trans hg,nY.fr,nY.fh,λr x hr hv=>?_,nY.xb⟩,λi hi He=>?_,λi j hi hj=>oz i j (by omega) (by omega)⟩
   ·simp only[kB,hl,true_and,g6,lA,List.length_singleton]
    by_cases e:r=(s (c+n)).rows.length
    ·subst e
     rw[if_pos ⟨aX _,Nat.lt_succ_self _⟩]
     simp[Ctx.add,aV]
    ·rw[if_neg (by omega)]
     simp only[Ctx.add,if_neg e];exact hR r
   ·simp only[jd,hl,true_and,g1,aW]
    split
    ·rename_i tT
     rw[g8 t tT,g5]
     obtain⟨e,q1,_⟩:=g4.cells
     exact⟨row,(Ctx.ja _ _ _ _).1,by simp[Ctx.add],by rw[q1];simp[ai.l],by simp[(Ctx.ja _ _ _ _).2]⟩
    ·rename_i tT
     refine w7 hg (hE t ht λk o' u7 oC dy=>?_)
     by_cases e:k=c+n
     ·subst e;rw[g1]at dy;cases dy;exact tT
     ·exact he k o' (by omega) oC dy
   ·by_cases e:r=(s (c+n)).rows.length
    ·right;right
     rw[e];simp only[Ctx.add,if_true];exact g7.jD
    ·have pF:cx.R r=some x:=by simpa[Ctx.add,e]using hr
     have El:¬cx.V r:=by simpa[Ctx.add,e]using hv
     have:=nY.oc r x pF El
     simpa only[Ctx.add,if_neg e]using this
   ·obtain⟨o',t',ao,iK,f1,f2,f3,f4,f5,f6,f7,f8,f9⟩:=nM i (by omega) He
    refine⟨o',t',ao,iK,f1,f2,f3,f4,f5,f6,⟨f7.jD,f7.lt,f7.here,f7.fh,λr x hr hv e'=>?_⟩,f8,f9⟩
    by_cases e:r=(s (c+n)).rows.length
    ·rw[e]at e'
     simp only[Ctx.add,if_true]at e'
     have:=oz (c+n) i (aX _) (by omega) hl He e'
     omega
    ·exact f7.row r x (by simpa[Ctx.add,e]using hr) (by simpa[Ctx.add,e]using hv) (by simpa only[Ctx.add,if_neg e]using e')
section
variable {P:Program} {G:List bb} {N M:Nat} {ops:Array Oper} {s:Nat->St} {ks:Nat->List Nat} {val:Nat->D} (hc:Vy P G N M ops s ks val) (lX:RE G ops (s ops.size).env=true)
include hc lX
theorem yy {c0 :Ctx}{dr gg:Nat->Bool}{c d i:Nat}(hI:Inv2 P G N M ops s ks val c0 w0 dr a w c d)(ho:ops[i]? =some o)(h0:dr i=false)(h1:gg i=true)(h2: ∀k,k≠i->gg k=dr k)
    (Np: ∀e∈o.after,Region.binds .any e=true->dr e.on=true) {K:Act->World->Prop} {Q:Exit->Act->World->Prop} (hK: ∀a' w' c' d',Inv2 P G N M ops s ks val c0 w0 gg a' w' c' d'->K a' w'):wpOp P ops Q i K a w:=by
  have bd:=(Array.getElem?_eq_some_iff.1 ho).1
  have pV: ∀k,((Region.before ops).getD i 0).testBit k=true->dr k=true:=λk hk=>
    SR (ar:=λk=>dr k=true) hI.closed (λo' jo=>by rw[ho]at jo;cases jo;exact Np) hk
  have nX: ∀j k,dr j=true->((Region.before ops).getD j 0).testBit k=true->dr k=true:=λj k hj hk=>
    SR (ar:=λk=>dr k=true) hI.closed (hI.closed j hj) hk
  have tU: ∀j,gg j=true-> ∀(o:Oper),ops[j]? =some o-> ∀e∈o.after,Region.binds .any e=true->gg e.on=true:=by
    intro j hj o' jo e he hb
    have gv:dr e.on=true:=by
      by_cases e':j=i
      . subst e';rw[ho]at jo;cases jo;exact Np e he hb
      . rw[h2 j e']at hj;exact hI.closed j hj o' jo e he hb
    rw[h2 e.on (λe'=>by rw[e',h0]at gv;cases gv)]
    exact gv
  have DA: ∀{x:Oper} {t:TypeId} {y:Operand},x.op= .load t y->lg G x.op=true:=λh=>by rw[h];rfl
  have hpu: ∀{x:Oper} {env:List (Nat×D)} {q:List Nat},lK env x.op=some q->lg G x.op=true:=λh=>by
    unfold lg;rw[(Z9e (G:=G) h).1];rfl
  have Hc: ∀{x:Oper} {t:TypeId},x.op= .alloc t->lg G x.op=true:=λh=>by rw[h];rfl
  obtain⟨cx,B,hm,hR,hE,nY,nM,oz⟩:=hI.ctx
  have Ft:dr d=false:=by
    cases hl:dr d with
    |false=>rfl
    | true=>
      obtain⟨o',t,_,_,g1,_,g3,_⟩:=nM d (aX _) hl
      have:=hI.wr _ g1
      rw[Hc g3]at this;cases this
  have hid:i<=d\/(d<i/\(∃t,o.guard=none/\o.op= .alloc t)/\ ∀u,o.dst=some u-> ∀k o',k≠i->ops[k]? =some o'->o'.dst≠some u):=by
    by_cases h:i<=d
    . exact .inl h
    . right
      have BA:ops[d]? =some ops[d]:=aU (by omega)
      have:=(FM lX (show d<i by omega) BA ho).2
      rcases this with⟨hq,_⟩|hb|hb|hb
      . rw[hI.wr _ BA]at hq;cases hq
      . have:=pV d hb
        rw[Ft]at this;cases this
      . rcases RC BA ho hb with⟨t,b,t',b',z,r,r',ii,off,me,iL,g1,g2,g3,_⟩|⟨q,g1,g2,g3,_⟩|⟨q,g1,g3,_⟩|⟨_,_,_,_,_,_,_,_,_,g1,g2,g3,_⟩|⟨_,_,_,_,_,_,_,_,g1,g2,g3,_⟩
        . have:=DA g3
          rw[hI.wr _ BA]at this;cases this
        . have:=hpu g3
          rw[hI.wr _ BA]at this;cases this
        . have:=hpu g3
          rw[hI.wr _ BA]at this;cases this
        . have:=DA g3
          rw[hI.wr _ BA]at this;cases this
        . have:=DA g3
          rw[hI.wr _ BA]at this;cases this
      . exact⟨by omega,hb⟩
  have WB:=hI.cd
  have Ib:=hI.dn
  have jj:cx.base<=w.heap.size:=by rw[nY.cz.base];exact Nat.le_trans hI.fy nY.fr.size
  have seen: ∀k o' t,k<i->ops[k]? =some o'->o'.dst=some t->t∈o.looksAt ops->dr k=true:=by
    intro k o' t hk jo hd ht
    rcases(FM lX hk jo ho).1 with tV|hb
    . exact((Gc tV).2.1 hd ht).elim
    . exact pV _ hb
  have Dk: ∀k o' t,d<=k->dr k=true->ops[k]? =some o'->t∈o.looksAt ops->i<=d->o'.dst≠some t:=by
    intro k o' t hk hl jo ht hid hd
    have nZ:i<k:=by
      by_cases e:k=i
      . rw[e,h0]at hl;cases hl
      . omega
    rcases(FM lX nZ ho jo).1 with tV|hb
    . exact(Gc tV).2.2 hd ht
    . have:=nX _ _ hl hb
      rw[h0]at this;cases this
  rcases hid with hid|⟨hdi,⟨t0,hg0,ho0⟩,Kz⟩
  rotate_left
  ·
    obtain⟨hks,row,arr,hA,hv,db⟩:=(hc.mC i o ho).al t0 hg0 ho0
    unfold wpOp
    simp only[ho]
    have hw:Region.wanted o (yielded ops a.tmps)=true:=by simp [Region.wanted,hg0]
    rw[if_pos hw]
    refine Gl (hA.run a.eval w) ?_
    have hmn:=Zss hm (.cells arr row.ty)
    have wo:=Qsb hm (.cells arr row.ty)
    have hn:jL [] cx w cx (w.alloc (.cells arr row.ty)):=lM.toK ⟨hmn,wo,Fr.alloc _ w _,λb hb=> .inl hb,λr row hr v=> .inl ⟨⟨row,hr⟩,v,rfl⟩⟩
    refine hK _ _ c d ⟨hI.cd,hI.dn,λk hk=>by rw[h2 k (by omega)];exact hI.pre k hk,hI.quiet,hI.wr,tU,?_,?_,hI.fy,hI.gw,cx,λk=>if k=i then w.heap.size else B k,hmn,λr=> ?_,λt ht he=> ?_,nY.step (ks:=[]) (λk hk=>by simp [da]at hk) hI.gw hn,λk hdk hl=> ?_,λk j hk hj oC HH e=> ?_⟩
    . cases hd:o.dst<;>simp [Act.put]<;>exact hI.size
    . first|exact lY.put (hI.defers.step hm hn.fr)|exact lY.put (hI.defers.step hm hn.toW.fr)
    . rw[hR,SY (λk hk=>h2 _ (by omega))]
    . rw[SX (λk hk=>h2 _ (by omega))]
      refine Vz hI.size (λu=>hc.dst i o u ho) (λhd=>(he i o (by omega) h1 ho hd).elim) (λhd=> ?_)
      exact w7 wo (hE t (λk o' hk hl dy=>ht k o' hk (by rw[h2 k (by omega)];exact hl) dy) (λk o' hk hl dy=>he k o' hk (by rw[h2 k (λe'=>by rw[e',h0]at hl;cases hl)];exact hl) dy))
    . by_cases e:k=i
      . subst e
        simp only[if_true]
        exact⟨o,t0,row,arr,ho,hg0,ho0,hA,hv,db,⟨nY.fr.size,by rw[Z11];omega,U4 w _,λhb=>by have:=(hm.fh _ hb).1;omega,λr ao hr El e=>by have:=hm.lt hr El;omega⟩,λu hu=>xX hu (bM (hc.dst k o u ho hu) hI.size),Kz⟩
      . simp only[if_neg e]
        rw[h2 k e]at hl
        exact(nM k hdk hl).du hn (Ne.symm e) ho
    . have key: ∀k,d<=k->gg k=true->k≠i->B k<w.heap.size:=λk hk oC e=>by
        rw[h2 k e]at oC
        obtain⟨_,_,_,_,_,_,_,_,_,_,g7,_⟩:=nM k hk oC
        exact g7.lt
      by_cases e1:k=i<;>by_cases e2:j=i
      . rw[e1,e2]
      . simp only[if_pos e1,if_neg e2]at e
        have:=key j hj HH e2;omega
      . simp only[if_neg e1,if_pos e2]at e
        have:=key k hk oC e1;omega
      . simp only[if_neg e1,if_neg e2]at e
        exact oz k j hk hj (by rw[<-h2 k e1];exact oC) (by rw[<-h2 j e2];exact HH) e
  by_cases pH:c<=i
  . by_cases e:i=d
    ·
      subst e
      have iQ: ∀k o',c<=k->k<i->ops[k]? =some o'->dr k=true\/MR G ops (s ops.size).env k i=true:=λk o' nh rF dy=>by
        rcases(FM lX rF dy ho).2 with⟨_,hq⟩|hb|hb|⟨⟨t4,_,g4⟩,_⟩
        . rw[hI.wr _ ho]at hq;cases hq
        . exact .inl (pV _ hb)
        . exact .inr hb
        . have:=hI.wr _ ho
          rw[Hc g4]at this;cases this
      have hnr: ∀k o',c<=k->k<i->ops[k]? =some o'->MR G ops (s ops.size).env k i=true->(s (k+1)).rows=(s k).rows:=λk o' nh rF dy hb=>by
        rcases RC dy ho hb with⟨t,b,t',b',z,r,r',ii,off,me,iL,g1,g2,g3,g4,g5,g6,g7,g8,g9⟩|⟨q,g1,g2,g3,g4,_⟩|⟨q,g1,g3,g4⟩|⟨t,b,r,ii,off,_,_,_,_,g1,g2,g3,g5,g7,_⟩|⟨t,b,r,ii,off,_,_,_,g1,g2,g3,g5,g7,_⟩
        . exact((hc.mC k o' dy).ld t b r ii off g1 g3 (Eh hc g5 g7 (aX _) (by omega))).2.1
        . exact((hc.mC k o' dy).pu q g1 (Zg3 hc g3 g4 (aX _) (by omega))).2.1
        . exact((hc.mC k o' dy).pu q g1 (Zg3 hc g3 (λa ha=>(g4.1 a ha).1) (aX _) (by omega))).2.1
        . exact((hc.mC k o' dy).ld t b r ii off g1 g3 (Eh hc g5 g7 (aX _) (by omega))).2.1
        . exact((hc.mC k o' dy).ld t b r ii off g1 g3 (Eh hc g5 g7 (aX _) (by omega))).2.1
      have db: ∀r,cx.R r=(s i).rows.getD r none:=λr=>by
        rw[hR,Ze8 hc hI.quiet Ib (by omega) (λk hk=>by
          have dy:ops[c+k]? =some ops[c+k]:=aU (by omega)
          rcases iQ (c+k) _ (by omega) (by omega) dy with h|h
          . exact .inl h
          . exact .inr (hnr (c+k) _ (by omega) (by omega) dy h)),show c+(i-c)=i by omega]
      have ta: ∀t,(∀k o',k<i->dr k=false->ops[k]? =some o'->o'.dst≠some t)->(∀k o',i<=k->dr k=true->ops[k]? =some o'->o'.dst≠some t)->Rep cx w (look (s i).env t) (a.tmps.getD t undef):=λt ht he=>by
        have:=hE t (λk o' hk=>ht k o' (by omega)) he
        rwa [Zir hc hI.quiet Ib (by omega) (λk o' hk dy hd=>by
          cases hl:dr (c+k) with
          |true=>rfl
          |false=>exact(ht _ _ (by omega) hl dy hd).elim),show c+(i-c)=i by omega]at this
      refine qax (M:=M) ho hm jj db (λt ht=>ta t (λk o' hk hl dy hd=>by rw[seen k o' t hk dy hd ht]at hl;cases hl) (λk o' hk hl dy=>Dk k o' t hk hl dy ht (aX _))) (hc.op i o ho) λv w' c' hM hn j6 hv=> ?_
      obtain⟨d',g1,g2,g3,g4⟩:=No G ops _ (i+1) rfl (by omega)
      have du: ∀k o' t b r ii off row,k<i->ops[k]? =some o'->dr k=false->o'.guard=none->o'.op= .load t (.tmp b)->kY ops k b=true->look (s ops.size).env b= .ptr r ii off->(s i).rows.getD r none=some row->(ks i=[]/\(s (i+1)).rows.getD r none=some row)\/(RG ops (s ops.size).env k o'/\(s (i+1)).rows.getD r none=some (row.kill (ks i))):=by
        intro k o' t b r ii off row hk dy hl q1 q2 q3 q4 q5
        rcases(FM lX hk dy ho).2 with⟨_,hq⟩|hb|hb|⟨⟨t4,_,g4⟩,_⟩
        rotate_right
        . have:=hI.wr _ ho
          rw[Hc g4]at this;cases this
        . rw[hI.wr _ ho]at hq;cases hq
        . rw[pV _ hb]at hl;cases hl
        . rcases RC dy ho hb with⟨t1,b1,t',b',z,r1,r',RL,Dl,me,iL,p1,p2,p3,p4,p5,p6,p7,p8,p9⟩|⟨q,p1,p2,p3,_⟩|⟨q,p1,p3,_⟩|⟨t1,b1,r1,RL,Dl,args,dj,x0,l0,p1,p2,p3,p4,p5,p6,p7,p8,p9⟩|⟨t1,b1,r1,RL,Dl,args,dj,td,p1,p2,p3,p4,p5,p6,p7,p8,p9⟩
          . rw[q2]at p3;cases p3
            rw[q4]at p7;cases p7
            obtain⟨f1,f2⟩:=(hc.mC i o ho).st t' b' z r' me iL p2 p4 (Eh hc p6 p8 (by omega) (by omega))
            exact .inl ⟨f1,by rw[f2 r p9];exact q5⟩
          . rw[q2]at p3;simp [lK,rC,cu,q4]at p3
          . rw[q2]at p3;simp [lK,rC,cu,q4]at p3
          . obtain⟨f1,f2⟩:=(hc.mC i o ho).ap args dj x0 l0 p2 p6 p7 (by rw[Ei hc p8 (Zhc p9) (by omega) (by omega)];exact p9)
            exact .inl ⟨f1,f2 r row q5⟩
          . refine .inr ⟨⟨td,p7,p8,p9⟩,(hc.mC i o ho).ap2 args dj p2 p6 r row q5 ?_⟩
            have e1:=Eh hc q3 q4 (show k<=i by omega) (by omega)
            have e2:=Eh hc q3 q4 (show k<=i+1 by omega) (by omega)
            rw[hc.env i o b ho,if_neg (J4 q3 (by omega) ho),BK,e1]at e2
            cases hb:da r (ks i) with
            |false=>rfl
            |true=>simp [D.j0,D.kill,D.fe,hb]at e2
      have HI: ∀k o' q,k<i->ops[k]? =some o'->dr k=false->lK (s ops.size).env o'.op=some q->ks i=[]\/J5 ops (s ops.size).env k o' q:=by
        intro k o' q hk dy hl hq
        rcases(FM lX hk dy ho).2 with⟨_,FL⟩|hb|hb|⟨⟨t4,_,g4⟩,_⟩
        rotate_right
        . have:=hI.wr _ ho
          rw[Hc g4]at this;cases this
        . rw[hI.wr _ ho]at FL;cases FL
        . rw[pV _ hb]at hl;cases hl
        . rcases RC dy ho hb with⟨t1,b1,t',b',z,r1,r',RL,Dl,me,iL,p1,p2,p3,p4,p5,p6,p7,p8⟩|⟨q,p1,p2,p3,p4,p5⟩|⟨q',p1,p3,p4⟩|⟨t1,b1,r1,RL,Dl,args,dj,x0,l0,p1,p2,p3,p4,p5,_⟩|⟨t1,b1,r1,RL,Dl,args,dj,td,p1,p2,p3,p4,p5,_⟩
          rotate_right
          . rw[p3]at hq;simp [lK,rC,cu,p5]at hq
          rotate_right
          . rw[p3]at hq;simp [lK,rC,cu,p5]at hq
          . rw[p3]at hq;simp [lK,rC,cu,p7]at hq
          . rcases p5 with⟨t',b',z,r',me,iL,p5,p6,p7⟩|⟨f,args,dj,p5,p6⟩
            . exact .inl ((hc.mC i o ho).st t' b' z r' me iL p2 p5 (Eh hc p6 p7 (by omega) (by omega))).1
            . exact .inl ((hc.mC i o ho).cl f args dj p2 p5 p6)
          . rw[p3]at hq;cases hq
            exact .inr p4
      have FN: ∀k,c<=k->k<i->ks k=[]:=λk nh rF=>by
        have dy:ops[k]? =some ops[k]:=aU (by omega)
        exact(Z0 (hc.op k _ dy) (hI.quiet k _ nh rF dy)).1
      have RM: ∀t,(∀k o,k<i+1->gg k=false->ops[k]? =some o->o.dst≠some t)->(∀k o,i+1<=k->gg k=true->ops[k]? =some o->o.dst≠some t)->Rep c' w' (look (s (i+1)).env t) ((a.put o.dst v).tmps.getD t undef):=by
        intro t ht he
        rw[hc.env i o t ho]
        refine Vz hI.size (λu=>hc.dst i o u ho) (λhd=>by rw[if_pos hd];exact hv) (λhd=> ?_)
        rw[if_neg hd,BK]
        refine w7 hn.cz (WO (ta t (λk o' hk hl dy=> ?_) (λk o' hk hl dy=> ?_)))
        . exact ht k o' (by omega) (by rw[h2 k (by omega)];exact hl) dy
        . have gv:k≠i:=λe'=>by rw[e',h0]at hl;cases hl
          exact he k o' (by omega) (by rw[h2 k gv];exact hl) dy
      refine hK _ w' (i+1) d' ⟨g1,g2,λk hk=> ?_,g3,g4,tU,?_,?_,hI.fy,hI.gw,by
        have:=RI hc (c0:=c0) (w0:=w0) (w:=w') (dr:=gg) (a:=a.put o.dst v) (c:=i+1) (d:=d') g3 g2 ⟨c',B,hn.mem,j6,RM,nY.step hM hI.gw hn,λk hk oC=>(nM k (by omega) (by rw[<-h2 k (by omega)];exact oC)).du hn (by omega) ho,λk j hk hj oC HH e=>oz k j (by omega) (by omega) (by rw[<-h2 k (by omega)];exact oC) (by rw[<-h2 j (by omega)];exact HH) e⟩ (d'-(i+1)) (by omega)
        rwa [show i+1+(d'-(i+1))=d' by omega]at this⟩
      . by_cases e' : k=i
        . rw[e'];exact .inl h1
        . rw [h2 k e']
          cases hl:dr k with
          |true=>exact .inl rfl
          | false =>
            right
            by_cases Wu:k<c
            . rcases hI.pre k Wu with h|h
              . rw[hl]at h;cases h
              . rcases h with h|⟨o',q,q1,q2,q3,q4,q8⟩
                rotate_left
                . rcases q8 with q8|q8
                  rotate_left
                  . exact .inr ⟨o',q,q1,q2,q3,q4, .inr q8⟩
                  rcases HI k o' q (by omega) q1 hl q3 with f1|f1
                  rotate_left
                  . exact .inr ⟨o',q,q1,q2,q3,q4, .inr f1⟩
                  refine .inr ⟨o',q,q1,q2,q3,q4, .inl λk' nh rF=> ?_⟩
                  by_cases KB:k'<c
                  . exact q8 k' nh KB
                  . by_cases DQ:k'<i
                    . exact FN k' (by omega) DQ
                    . rw[show k'=i by omega];exact f1
                obtain⟨o',t,b,r,ii,off,row,ao,q1,q2,q3,q4,q5,q6,q7,q8⟩:=h
                have rr:r<(s c).rows.length:=by
                  by_cases hh:r<(s c).rows.length
                  . exact hh
                  . simp only[aV,aJ (show(s c).rows.length<=r by omega)]at q7;cases q7
                have iG:=Kv hc.toChain hI.quiet Ib (aX c) pH (aX i) rr
                rcases du k o' t b r ii off ao (by omega) q1 hl q2 q3 q4 q5 (by rw[iG];exact q7) with⟨f1,f2⟩|⟨f1,f2⟩
                . rcases q8 with⟨e8,q8⟩|q8
                  . refine .inl ⟨o',t,b,r,ii,off,row,ao,q1,q2,q3,q4,q5,q6,f2, .inl ⟨e8,λk' nh rF=> ?_⟩⟩
                    by_cases KB:k'<c
                    . exact q8 k' nh KB
                    . by_cases DQ:k'<i
                      . exact FN k' (by omega) DQ
                      . rw[show k'=i by omega];exact f1
                  . exact .inl ⟨o',t,b,r,ii,off,row,ao,q1,q2,q3,q4,q5,q6,f2, .inr ⟨q8.1,q8.2.elim λL hL=>⟨L,hL.1,λkk hk=>(hL.2 kk hk).elim λj hj=>⟨j,hj.1,by omega,hj.2.2⟩⟩⟩⟩
                . refine .inl ⟨o',t,b,r,ii,off,row,_,q1,q2,q3,q4,q5,q6,f2, .inr ⟨f1,?_⟩⟩
                  rcases q8 with⟨e8,_⟩|⟨_,L,e8,hL⟩
                  . exact⟨[ks i],by rw[e8];rfl,λkk hk=>⟨i,by omega,by omega,List.mem_singleton.1 hk⟩⟩
                  . refine⟨L++[ks i],by rw[List.foldl_append,<-e8];rfl,λkk hk=> ?_⟩
                    rcases List.mem_append.1 hk with hk|hk
                    . obtain⟨j,j1,j2,j3⟩:=hL kk hk
                      exact⟨j,j1,by omega,j3⟩
                    . exact⟨i,by omega,by omega,List.mem_singleton.1 hk⟩
            . have dy:ops[k]? =some ops[k]:=aU (by omega)
              rcases iQ k _ (by omega) (by omega) dy with h|h
              . rw[hl]at h;cases h
              . have go: ∀t b r ii off,ops[k].guard=none->ops[k].op= .load t (.tmp b)->kY ops k b=true->look (s ops.size).env b= .ptr r ii off->RH ops s ks k (i+1):=by
                  intro t b r ii off p1 p3 p5 p7
                  obtain⟨row,c6⟩:=((hc.mC k _ dy).ld t b r ii off p1 p3 (Eh hc p5 p7 (aX _) (by omega))).2.2.1
                  have rr:r<(s k).rows.length:=by
                    by_cases hh:r<(s k).rows.length
                    . exact hh
                    . simp only[aV,aJ (show(s k).rows.length<=r by omega)]at c6;cases c6
                  have iG:=Kv hc.toChain hI.quiet Ib (show c<=k by omega) (show k<=i by omega) (aX i) rr
                  rcases du k _ t b r ii off row (by omega) dy hl p1 p3 p5 p7 (by rw[iG];exact c6) with⟨f1,f2⟩|⟨f1,f2⟩
                  rotate_left
                  . exact .inl ⟨_,t,b,r,ii,off,row,_,dy,p1,p3,p5,p7,c6,f2, .inr ⟨f1,[ks i],rfl,λkk hk=>⟨i,by omega,by omega,List.mem_singleton.1 hk⟩⟩⟩
                  refine .inl ⟨_,t,b,r,ii,off,row,row,dy,p1,p3,p5,p7,c6,f2, .inl ⟨rfl,λk' nh rF=> ?_⟩⟩
                  by_cases DQ:k'<i
                  . exact FN k' (by omega) DQ
                  . rw[show k'=i by omega];exact f1
                rcases RC dy ho h with⟨t,b,t',b',z,r,r',ii,off,me,iL,p1,p2,p3,p4,p5,p6,p7,p8,p9⟩|⟨q,p1,p2,p3,p4,p5⟩|⟨q,p1,p3,p4⟩|⟨t,b,r,ii,off,_,_,_,_,p1,p2,p3,p5,p7,_⟩|⟨t,b,r,ii,off,_,_,_,p1,p2,p3,p5,p7,_⟩
                rotate_right
                . exact go t b r ii off p1 p3 p5 p7
                rotate_left 2
                rotate_left
                . exact go t b r ii off p1 p3 p5 p7
                rotate_right
                . exact .inr ⟨_,q,dy,p1,p3,λa ha=>(p4.1 a ha).1, .inr p4⟩
                rotate_left
                . rcases HI k _ q (by omega) dy hl p3 with f1|f1
                  rotate_left
                  . exact .inr ⟨_,q,dy,p1,p3,p4, .inr f1⟩
                  refine .inr ⟨_,q,dy,p1,p3,p4, .inl λk' nh rF=> ?_⟩
                  by_cases DQ:k'<i
                  . exact FN k' (by omega) DQ
                  . rw[show k'=i by omega];exact f1
                exact go t b r ii off p1 p3 p5 p7
      . cases hd:o.dst<;>simp [Act.put]<;>exact hI.size
      . first|exact lY.put (hI.defers.step hm hn.fr)|exact lY.put (hI.defers.step hm hn.toW.fr)
    ·
      have HZ:i<d:=by omega
      have hq:=hI.quiet i o pH HZ ho
      have Nq:=Wr hq
      have Nr: ∀t∈o.looksAt ops,Rep cx w (look (s i).env t) (a.tmps.getD t undef):=λt ht=>by
        have Ia : ∀n,c+n<=d->jd ops s val dr c n t=if c+n<=i then look (s (c+n)).env t else look (s i).env t:=by
          intro n
          induction n with
          |zero=>intro _;simp only[jd,aB];rw[if_pos pH]
          | succ n ih=>
            intro hn
            obtain⟨ok,dy⟩: ∃ok,ops[c+n]? =some ok:=⟨_,aU (show c+n<ops.size by omega)⟩
            have ih:=ih (by omega)
            simp only[jd,dy,aW]
            by_cases hk:c+n<i
            . have hA:c+(n+1)<=i:=by omega
              have SZ:c+n<=i:=by omega
              rw[if_pos hA,show c+(n+1)=c+n+1 by omega,hc.toChain.En dy (hI.quiet _ _ (by omega) (by omega) dy) t]
              rw[if_pos SZ]at ih
              by_cases hd:ok.dst=some t
              . rw[if_pos ⟨seen _ _ t hk dy hd ht,hd⟩,if_pos hd]
              . rw[if_neg (λg=>hd g.2),if_neg hd,ih]
            . have Ic: ¬(dr (c+n)=true/\ok.dst=some t):=by
                rintro⟨g1,g2⟩
                by_cases e':c+n=i
                . rw[e',h0]at g1;cases g1
                . have nZ:i<c+n:=by omega
                  rcases(FM lX nZ ho dy).1 with tV|hb
                  . exact(Gc tV).2.2 g2 ht
                  . have:=nX _ _ g1 hb
                    rw[h0]at this;cases this
              have hA: ¬c+(n+1)<=i:=by omega
              rw[if_neg Ic,ih,if_neg hA]
              split
              . rw[show c+n=i by omega]
              . rfl
        have:=hE t (λk o' hk hl dy hd=>by rw[seen k o' t (by omega) dy hd ht]at hl;cases hl) (λk o' hk hl dy=>Dk k o' t hk hl dy ht hid)
        rw[Ia (d-c) (by omega),if_neg (by omega)]at this
        exact this
      have hlen: ∀k l,c<=k->k<=l->l<=d->(s k).rows.length<=(s l).rows.length:=λk l h1 h2 h3=>Ku hc.toChain hI.quiet hI.dn h1 h2 h3
      have iw: ∀k l,c<=k->k<=l->l<=d-> ∀r,r<(s k).rows.length->(s l).rows.getD r none=(s k).rows.getD r none:=λk l h1 h2 h3 r hr=>Kv hc.toChain hI.quiet hI.dn h1 h2 h3 hr
      have BB: ∀n,c+n<=d-> ∀r,r<(s i).rows.length-> ∀row,kB s dr c n r=some row->(s i).rows.getD r none=some row:=by
        intro n
        induction n with
        | zero=>
          intro _ r hr row h
          simp only[kB]at h
          by_cases Wv:r<(s c).rows.length
          . rw[iw c i (aX _) pH (by omega) r Wv];exact h
          . simp only[aV,aJ (show(s c).rows.length<=r by omega)]at h;cases h
        | succ n ih=>
          intro hn r hr row h
          simp only[kB]at h
          split at h
          . rename_i g
            obtain⟨g1,g2,g3⟩:=g
            have Ww:c+n<i:=by
              by_cases mM:c+n<i
              . exact mM
              . by_cases e':c+n=i
                . rw[e',h0]at g1;cases g1
                . have:=hlen i (c+n) pH (by omega) (by omega);omega
            rw[iw (c+n+1) i (by omega) (by omega) (by omega) r g3];exact h
          . exact ih (by omega) r hr row h
      have BC: ∀n,c+n<=d-> ∀r,(s i).rows.length<=r->r<(s (i+1)).rows.length->kB s dr c n r=none:=by
        intro n
        induction n with
        | zero=>
          intro _ r h1 h2
          have:=hlen c i (aX _) pH (by omega)
          simp only[kB,aV,aJ (show(s c).rows.length<=r by omega),Option.getD_none]
        | succ n ih=>
          intro hn r h1 h2
          simp only[kB]
          rw[if_neg]
          . exact ih (by omega) r h1 h2
          . rintro⟨g1,g2,g3⟩
            by_cases e':c+n=i
            . rw[e',h0]at g1;cases g1
            . by_cases mM:c+n<i
              . have:=hlen (c+n+1) i (by omega) (by omega) (by omega);omega
              . have:=hlen (i+1) (c+n) (by omega) (by omega) (by omega);omega
      have oW:mh cx (s i).rows:=λr row ao g1 g2=>by
        have hr:r<(s i).rows.length:=by
          by_cases h:r<(s i).rows.length
          . exact h
          . simp only[aV,aJ (show(s i).rows.length<=r by omega)]at g2;cases g2
        rw[hR]at g1
        have:=BB (d-c) (by omega) r hr row g1
        rw[this]at g2;exact Option.some.inj g2
      have fin: ∀v w' c',Kt cx w (s i).rows (s (i+1)).rows c' w'->Rep c' w' (val i) v->K (a.put o.dst v) w':=by
        intro v w' c' hn hv
        refine hK _ w' c d ⟨hI.cd,hI.dn,λk hk=>by rw[h2 k (by omega)];exact hI.pre k hk,hI.quiet,hI.wr,tU,?_,?_,hI.fy,hI.gw,c',B,hn.mem,λr=> ?_,λt ht he=> ?_,nY.step (ks:=[]) (λk hk=>by simp [da]at hk) hI.gw hn.toW.toK,λk hk oC=>(nM k hk (by rw[<-h2 k (by omega)];exact oC)).du hn.toW.toK (by omega) ho,λk j hk hj oC HH e=>oz k j hk hj (by rw[<-h2 k (by omega)];exact oC) (by rw[<-h2 j (by omega)];exact HH) e⟩
        . cases hd:o.dst<;>simp [Act.put]<;>exact hI.size
        . first|exact lY.put (hI.defers.step hm hn.fr)|exact lY.put (hI.defers.step hm hn.toW.fr)
        . rw[hn.rows,hR,Wt pH h0 h1 h2 (d:=d) (λk nh rF=>hlen (i+1) k (by omega) (by omega) (by omega)) (by omega) (by omega)]
        . have hl: ∀k o',i<k->dr k=true->ops[k]? =some o'->o'.dst=some t->o.dst=some t->False:=by
            intro k o' nZ hk dy Ng Wx
            rcases(FM lX nZ ho dy).1 with tV|hb
            . exact(Gc tV).1 Wx Ng
            . have:=nX _ _ hk hb
              rw[h0]at this;cases this
          rw[Ws ho pH h0 h1 h2 hl (by omega)]
          have hold:=w7 hn.cz (hE t (λk o' hk hl dy=>ht k o' hk (by rw[h2 k (by omega)];exact hl) dy) (λk o' hk hl dy=>he k o' hk (by rw[h2 k (by omega)];exact hl) dy))
          refine Vz hI.size (λu=>hc.dst i o u ho) (λhd=>by rw[if_pos hd];exact hv) (λhd=>by rw[if_neg hd];exact hold)
      have skip:val i= .dw []->(s (i+1)).rows=(s i).rows->K (a.put o.dst undef) w:=λe1 e2=>
        fin undef w cx ⟨hm,Q4.refl _ _,Fr.refl _ _,λb hb=> .inl hb,λr=>by rw[e2,if_neg (by omega)],λ_ _=>⟨rfl,Iff.rfl⟩,λr g1 g2=>by rw[e2]at g2;omega⟩ (by rw[e1];exact S0 _ _)
      have run:pE P G M o (cu (s i).env) (s i).rows (ks i) (val i) (s (i+1)).rows->o.nj P a w K Q:=λhX=>by
        unfold pE at hX
        rw[Nq]at hX
        refine hX.2.2 cx w a hm jj oW (λr g1 g2=>by rw[hR];exact BC (d-c) (by omega) r g1 g2) (λx hx=> ?_) K Q fin
        cases x with
        | tmp t=>
          refine Nr t ?_
          unfold Oper.looksAt
          exact eU _ (List.mem_filterMap.2 ⟨.tmp t,by simpa using hx,rfl⟩)
        | const v=>
          simp only[cu,Act.eval]
          cases hv:Gd v with
          |none=>trivial
          |some d=>exact Ns hv cx w
        |global g=>trivial
        |func f=>exact Kw f
      have hG:=hc.op i o ho
      unfold wpOp
      simp only[ho]
      unfold nC at hG
      cases hg:o.guard with
      | none=>
        simp only[hg]at hG
        have hw:Region.wanted o (yielded ops a.tmps)=true:=by simp [Region.wanted,hg]
        rw[if_pos hw]
        exact run hG
      | some jw=>
        obtain⟨j,want⟩:=jw
        simp only[hg]at hG
        obtain⟨g,g2,hG⟩:=hG
        have hr:=Nr g (by
          unfold Oper.looksAt
          refine eZ _ ?_
          simp only[hg,g2];simp)
        rcases hG with⟨b,g3,g4⟩|⟨g3,_,e1,e2⟩
        rotate_left
        . rw[g3]at hr
          rw[if_neg (by rw[S1 (o:=o) hg g2 hr];simp)]
          exact skip e1 e2
        rw[g3]at hr
        have hw:=S2 (o:=o) hg g2 hr
        by_cases e':b=want
        . rw[if_pos e']at g4
          rw[if_pos (by rw[hw];simpa using e')]
          exact run g4
        . rw[if_neg e']at g4
          rw[if_neg (by rw[hw];simpa using e')]
          exact skip g4.2.1 g4.2.2
  ·
    have Wo:i<c:=by omega
    rcases hI.pre i Wo with h|h
    . rw[h0]at h;cases h
    have RN: ∀b,kY ops i b=true->(∀k,i<k->k<c->ks k=[])->ks i=[]->look (s c).env b=look (s i).env b:=by
      intro b hb q8 q9
      have: ∀k,i<=k->k<=c->look (s k).env b=look (s i).env b:=by
        intro k
        induction k with
        |zero=>intro h1 _;rw[show i=0 by omega]
        | succ k ih=>
          intro h1 h2
          by_cases e':i=k+1
          . rw[e']
          . have dy:ops[k]? =some ops[k]:=aU (by omega)
            rw[hc.env k _ b dy,if_neg (J4 hb (by omega) dy)]
            by_cases e2:k=i
            . rw[e2,q9,oG]
            . rw[q8 k (by omega) (by omega),oG];exact ih (by omega) (by omega)
      exact this c (by omega) (aX _)
    have ov: ∀b,kY ops i b=true->b∈o.looksAt ops->Rep cx w (look (s c).env b) (a.tmps.getD b undef):=λb hnb hlb=>by
      have:=hE b (λk o' hk hl dy hd=>by
        by_cases Ww:k<i
        . rw[seen k o' b Ww dy hd hlb]at hl;cases hl
        . exact J4 hnb (by omega) dy hd) (λk o' hk hl dy=>Dk k o' b hk hl dy hlb hid)
      rwa [Z25 hc (λk o' hk dy hd=>(J4 hnb (by omega) dy hd).elim)]at this
    obtain ⟨q2,q8,hN,Df⟩:o.guard=none/\((∀k,i<k->k<c->ks k=[])\/ ∀t,o.dst=some t->kY ops (i+1) t=true/\uU (look (s ops.size).env t)=true)/\pJ P o (cu (s c).env) (s c).rows (val i) (s c).rows/\ ∀x∈o.op.operands,Rep cx w (cu (s c).env x) (a.eval x):=by
      rcases h with⟨o',t0,b,r,ii,off,row,ao,q1,q2,q3,q4,q5,q6,q7,q8⟩|⟨o',q,q1,q2,q3,q4,q8⟩
      . rw [ho]at q1;cases q1
        have hpc:look (s c).env b= .ptr r ii off:=Eh hc q4 q5 (by omega) (by omega)
        have hpi:look (s i).env b= .ptr r ii off:=Eh hc q4 q5 (by omega) (by omega)
        have th:=(hc.mC i o ho).ld t0 b r ii off q2 q3 hpi
        have ei:cu (s c).env (.tmp b)= .ptr r ii off:=by simp [cu,hpc]
        have q9:((∀k,i<k->k<c->ks k=[])\/ ∀t,o.dst=some t->kY ops (i+1) t=true/\uU (look (s ops.size).env t)=true)/\pJ P o (cu (s c).env) (s c).rows (val i) (s c).rows:=by
          rcases q8 with⟨e8,q8⟩|⟨⟨td,d1,d2,d3⟩,L,e8,hL⟩
          . subst e8
            exact⟨.inl q8,th.2.2.2.1 (cu (s c).env) (s c).rows ei (by rw[q6,q7])⟩
          . refine⟨.inr λt ht=>by rw[d1]at ht;cases ht;exact⟨d2,RB d3⟩,th.2.2.2.2 (cu (s c).env) (s c).rows row L ?_ (λkk hk=> ?_) ei q6 (by rw[q7,e8])⟩
            rotate_left
            . obtain⟨j,j1,j2,rfl⟩:=hL kk hk
              have h5:=Ei hc d2 (RB d3) (aX _) (show i+1<=ops.size by omega)
              have h6:=hc.env i o td ho
              rw[if_pos d1,h5]at h6
              have g1:=Ei hc d2 (RB d3) (show i+1<=j by omega) (show j<=ops.size by omega)
              have g2:=Ei hc d2 (RB d3) (show i+1<=j+1 by omega) (show j+1<=ops.size by omega)
              have dy:ops[j]? =some ops[j]:=aU (by omega)
              rw[hc.env j _ td dy,if_neg (J4 d2 (by omega) dy),BK,g1,Zt9 d3]at g2
              rw[<-h6];exact g2
            have h5:=Ei hc d2 (RB d3) (aX _) (show i+1<=ops.size by omega)
            have h6:=hc.env i o td ho
            rw[if_pos d1]at h6
            rw[<-h6,h5];exact d3
        refine⟨q2,q9.1,q9.2,λx hx=> ?_⟩
        have jK:x= .tmp b:=by simpa [q3,Op.operands] using hx
        rw[jK]
        refine ov b q4 ?_
        unfold Oper.looksAt
        exact eU _ (List.mem_filterMap.2 ⟨.tmp b,by rw[q3];simp [Op.operands],rfl⟩)
      . rw [ho]at q1;cases q1
        have th:=(hc.mC i o ho).pu q q2 (Zg3 hc q3 q4 (aX _) (by omega))
        refine⟨q2,q8.imp id λg t ht=>⟨(g.2 t ht).1,(g.2 t ht).2⟩,th.2.2 (cu (s c).env) (s c).rows (λx hx=> ?_),λy hy=> ?_⟩
        . cases x with
          | tmp b=>
            rcases q8 with q8|q8
            . exact RN b (q4 b (Z9h q3 hx)) q8 th.1
            . obtain⟨g1,g2⟩:=q8.1 b (Z9h q3 hx)
              show look (s c).env b=look (s i).env b
              rw[Ei hc g1 g2 (by omega) (by omega),Ei hc g1 g2 (aX _) (by omega)]
          |_=>rfl
        . cases y with
          | tmp b=>
            refine ov b (q4 b (Z9h q3 hy)) ?_
            unfold Oper.looksAt
            exact eU _ (List.mem_filterMap.2 ⟨.tmp b,by simpa using hy,rfl⟩)
          | const v=>
            simp only[cu,Act.eval]
            cases hv:Gd v with
            |none=>trivial
            |some d=>exact Ns hv cx w
          |global g=>trivial
          |func f=>exact Kw f
    have oW:mh cx (s c).rows:=λr' Rp jA g1 g2=>by
      have hr:r'<(s c).rows.length:=by
        by_cases h:r'<(s c).rows.length
        . exact h
        . simp only[aV,aJ (show(s c).rows.length<=r' by omega)]at g2;cases g2
      rw[hR,Zn0 hc hI.quiet Ib hr (by omega),g2]at g1
      exact(Option.some.inj g1).symm
    have fin: ∀v w' c',Kt cx w (s c).rows (s c).rows c' w'->Rep c' w' (val i) v->K (a.put o.dst v) w':=by
      intro v w' c' hn hv
      refine hK _ w' c d ⟨WB,Ib,λk hk=> ?_,hI.quiet,hI.wr,tU,?_,?_,hI.fy,hI.gw,c',B,hn.mem,λr'=> ?_,λt ht he=> ?_,nY.step (ks:=[]) (λk hk=>by simp [da]at hk) hI.gw hn.toW.toK,λk hk oC=>(nM k hk (by rw[<-h2 k (by omega)];exact oC)).du hn.toW.toK (by omega) ho,λk j hk hj oC HH e=>oz k j hk hj (by rw[<-h2 k (by omega)];exact oC) (by rw[<-h2 j (by omega)];exact HH) e⟩
      . by_cases e':k=i
        . rw[e'];exact .inl h1
        . rw[h2 k e'];exact hI.pre k hk
      . cases hd:o.dst<;>simp [Act.put]<;>exact hI.size
      . first|exact lY.put (hI.defers.step hm hn.fr)|exact lY.put (hI.defers.step hm hn.toW.fr)
      . rw[hn.rows,hR,if_neg (by omega),SY (λk hk=>h2 _ (by omega))]
      . rw [SX (λk hk=>h2 _ (by omega))]
        refine Vz hI.size (λu=>hc.dst i o u ho) (λhd=> ?_) (λhd=> ?_)
        ·
          have nf: ∀k o',i<k->ops[k]? =some o'->o'.dst=some t->dr k=false:=λk o' hk dy pq=>by
            cases hl:dr k with
            |false=>rfl
            | true=>
              rcases(FM lX hk ho dy).1 with tV|hb
              . exact((Gc tV).1 hd pq).elim
              . have:=nX _ _ hl hb
                rw[h0]at this;cases this
          have Jai: ∀k o',i<k->k<c->ops[k]? =some o'->o'.dst≠some t:=λk o' nh rF dy pq=>
            ht k o' rF (by rw[h2 k (by omega)];exact nf k o' nh dy pq) dy pq
          rw[Z25 hc (λk o' hk dy pq=>nf _ o' (by omega) dy pq)]
          have: ∀k,i<k->k<=c->look (s k).env t=val i:=by
            rcases q8 with q8|q8
            rotate_left
            . intro k nh rF
              obtain⟨g1,g2⟩:=q8 t hd
              have:=hc.env i o t ho
              rw[if_pos hd]at this
              rw[<-this,Ei hc g1 g2 (by omega) (by omega),Ei hc g1 g2 (aX _) (by omega)]
            intro k
            induction k with
            |zero=>intro h;omega
            | succ k ih=>
              intro nh rF
              have dy:ops[k]? =some ops[k]:=aU (by omega)
              by_cases e':k=i
              . subst e'
                rw[ho]at dy
                rw[hc.env k o t ho,if_pos hd]
              . rw[hc.env k _ t dy,if_neg (Jai k _ (by omega) (by omega) dy),q8 k (by omega) (by omega),oG]
                exact ih (by omega) (by omega)
          rw[this c Wo (aX _)]
          exact hv
        . refine w7 hn.cz (hE t (λk o' hk hl dy pq=> ?_) (λk o' hk hl dy=>he k o' hk (by rw[h2 k (by omega)];exact hl) dy))
          by_cases e':k=i
          . subst e'
            rw[ho]at dy;cases dy
            exact hd pq
          . exact ht k o' hk (by rw[h2 k e'];exact hl) dy pq
    unfold wpOp
    simp only[ho]
    have hw:Region.wanted o (yielded ops a.tmps)=true:=by simp [Region.wanted,q2]
    rw[if_pos hw]
    exact hN.2 cx w a hm jj oW (λr' g1 g2=>by omega) Df K Q fin
theorem Zli{c d:Nat}(hI:Inv2 P G N M ops s ks val c0 w0 dr a w c d)(iQ:∀i,i<ops.size->dr i=true):∃cx,fj N M c0 w0 cx w (s ops.size) a:=by
 obtain⟨cx,B,hm,hR,hE,nY,nM,oz⟩:=hI.ctx
 have hd:d=ops.size:=by
  by_cases h:d<ops.size
  ·obtain⟨o',t,_,_,g1,_,g3,_⟩:=nM d (aX _) (iQ d h)
   have:=hI.wr _ g1
   unfold lg at this
   rw[g3]at this;cases this
  ·have:=hI.dn;omega
 subst hd
 have WB:=hI.cd
 have hl:∀k,k<ops.size-c->dr (c+k)=true:=λk hk=>iQ _ (by omega)
 refine⟨cx,hm,λr=>?_,λt=>?_,hI.size,hI.defers,hI.fy,hI.gw,nY⟩
 ·rw[hR,SU hc.toChain hI.quiet hI.dn (by omega) hl,show c+(ops.size-c)=ops.size by omega]
 ·have:=hE t (λk o hk h0 dy=>by rw[iQ k (Array.getElem?_eq_some_iff.1 dy).1]at h0;cases h0) (λk o hk _ dy=>by have:=(Array.getElem?_eq_some_iff.1 dy).1;omega)
  rw[SS hc.toChain hI.quiet hI.dn (by omega) hl]at this
  rwa [show c+(ops.size-c)=ops.size by omega]at this
theorem qz(hQ:∀c w a,fj N M c0 w0 c w (s ops.size) a->Q .normal a w):∀(fuel:Nat) (ar:Array Bool) (a:Act) (w:World) (c d:Nat),ar.size=ops.size->mN (λi=>ar.getD i false) ops.size<=fuel->
 Inv2 P G N M ops s ks val c0 w0 (λi=>ar.getD i false) a w c d->Ie P .any ops Q fuel ar a w:=by
 intro fuel
 have Q7:∀(ar:Array Bool) (i:Nat),ar.size=ops.size->(i∈Region.ready .any ops ar↔ ∃o,ops[i]?=some o/\ar.getD i false=false/\∀e∈o.after,Region.binds .any e=true->ar.getD e.on false=true):=by
  intro ar i ft
  unfold Region.ready
  rw[gP,gQ]
  constructor
  ·rintro⟨h1,h2⟩
   have ho:ops[i]?=some ops[i]:=aU h1
   simp only[ho,bA,aR,aE,bB]at h2
   refine⟨_,ho,?_,λe he hb=>?_⟩
   ·have hl:i<ar.size:=by omega
    have:=h2.1
    simpa[aY,hl]using this
   ·have:=Array.all_eq_true'.1 h2.2 e he
    simpa[hb]using this
  ·rintro⟨o,ho,h1,h2⟩
   have bd:=(Array.getElem?_eq_some_iff.1 ho).1
   refine⟨bd,?_⟩
   simp only[ho,bA,aR,aE,bB]
   have hl:i<ar.size:=by omega
   refine⟨by simpa[aY,hl]using h1,Array.all_eq_true'.2 λe he=>?_⟩
   cases hb:Region.binds .any e with
   |false=>rfl
   |true=>simpa[hb]using h2 e he hb
 have kp:∀(ar:Array Bool),ar.size=ops.size->Region.ready .any ops ar=[]->∀i,i<ops.size->ar.getD i false=true:=by
  intro ar ft he i
  induction i using Nat.strongRecOn with
  |_ i ih=>
   intro hi
   cases hl:ar.getD i false with
   |true=>rfl
   |false=>
    exfalso
    have ho:ops[i]?=some ops[i]:=aU hi
    have:i∈Region.ready .any ops ar:=(Q7 ar i ft).2 ⟨_,ho,hl,λe w5 hb=>by
     have:=Zju lX ho e w5 hb
     exact ih e.on this (by omega)⟩
    rw[he]at this;cases this
 induction fuel with
 |zero=>
  intro ar a w c d ft BD hI
  have iQ:=Wz (dr:=λi=>ar.getD i false) (Nat.le_zero.1 BD)
  refine⟨?_,?_⟩
  ·rw[List.eq_nil_iff_forall_not_mem]
   intro i hi
   obtain⟨o,ho,h1,_⟩:=(Q7 ar i ft).1 hi
   have:=iQ i (Array.getElem?_eq_some_iff.1 ho).1
   rw[h1]at this;cases this
  ·obtain⟨cx,hs⟩:=Zli hc lX hI iQ
   exact hQ cx w a hs
 |succ fuel ih=>
  intro ar a w c d ft BD hI
  refine⟨λhe=>?_,λi hi=>?_⟩
  ·obtain⟨cx,hs⟩:=Zli hc lX hI (kp ar ft he)
   exact hQ cx w a hs
  ·obtain⟨o,ho,h1,h2⟩:=(Q7 ar i ft).1 hi
   have bd:=(Array.getElem?_eq_some_iff.1 ho).1
   have r8:(ar.setIfInBounds i true).getD i false=true:=by
    have hl:i<ar.size:=by omega
    simp[aY,hl]
   have r9:∀k,k≠i->(ar.setIfInBounds i true).getD k false=ar.getD k false:=λk hk=>by
    rw[aQ,aZ (Ne.symm hk),<-aQ]
   refine yy hc lX (gg:=λk=>(ar.setIfInBounds i true).getD k false) hI ho h1 r8 r9 h2 λa' w' c' d' WC=>?_
   refine ih _ a' w' c' d' (by simpa using ft) ?_ WC
   have:=WA (dr:=λk=>ar.getD k false) (gg:=λk=>(ar.setIfInBounds i true).getD k false) h1 r8 r9 bd
   omega
end
theorem Q7{ar:Array Bool}(ft:ar.size=ops.size):i∈Region.ready .any ops ar↔ ∃o,ops[i]?=some o/\ar.getD i false=false/\∀e∈o.after,Region.binds .any e=true->ar.getD e.on false=true:=by
 unfold Region.ready
 rw[gP,gQ]
 constructor
 ·rintro⟨h1,h2⟩
  have ho:ops[i]?=some ops[i]:=aU h1
  simp only[ho,bA,aR,aE,bB]at h2
  refine⟨_,ho,?_,λe he hb=>?_⟩
  ·have hl:i<ar.size:=by omega
   have:=h2.1
   simpa[aY,hl]using this
  ·have:=Array.all_eq_true'.1 h2.2 e he
   simpa[hb]using this
 ·rintro⟨o,ho,h1,h2⟩
  have bd:=(Array.getElem?_eq_some_iff.1 ho).1
  refine⟨bd,?_⟩
  simp only[ho,bA,aR,aE,bB]
  have hl:i<ar.size:=by omega
  refine⟨by simpa[aY,hl]using h1,Array.all_eq_true'.2 λe he=>?_⟩
  cases hb:Region.binds .any e with
  |false=>rfl
  |true=>simpa[hb]using h2 e he hb
theorem xz{r:Nat}:∀{l:List Nat} {k:Nat},r∉l->pos r l k=k+l.length
 |[],k,_=>rfl
 |x::l,k,h=>by
  simp only[List.mem_cons,not_or]at h
  simp only[pos]
  cases hb:Nat.beq x r with
  |true=>exact(h.1 (bE hb).symm).elim
  |false=>show pos r l (k+1)=_;rw[xz h.2];simp;omega
section
variable {p:List Nat} {ops:Array Oper} (hp:VA p ops.size=true)
include hp
theorem VB:p.length=ops.size/\(∀i,i<ops.size->i∈p)/\(∀i∈p,i<ops.size)/\p.Nodup:=by
 unfold VA at hp
 simp only[aE]at hp
 obtain⟨h1,h2,h3,h4⟩:=hp
 exact⟨bE h1,λi hi=>nO.1 (List.all_eq_true.1 h2 i (List.mem_range.2 hi)),λi hi=>lE (List.all_eq_true.1 h3 i hi),Mx.1 h4⟩
theorem HJ(hi:i<ops.size):pos i p 0<ops.size/\p[pos i p 0]?=some i:=by
 obtain⟨h1,h2,h3,h4⟩:=VB hp
 have:=Bl (h2 i hi)
 exact⟨by have:=(List.getElem?_eq_some_iff.1 this).1;omega,this⟩
theorem Ziv(h:pos i p 0<ops.size):i<ops.size:=by
 obtain⟨h1,h2,h3,h4⟩:=VB hp
 by_cases hm:i∈p
 ·exact h3 i hm
 ·rw[xz hm]at h;omega
theorem Qs1:(nu p ops).size=ops.size:=by
 obtain⟨h1,_⟩:=VB hp
 simp[nu,h1]
theorem VC(hk:p[k]?=some i)(ho:ops[i]?=some o):(nu p ops)[k]?=some (MS p o):=by
 have:ops.getD i default=o:=by
  have bd:=(Array.getElem?_eq_some_iff.1 ho).1
  have:=(Array.getElem?_eq_some_iff.1 ho).2
  simp[aY,bd,this]
 simp[nu,hk,ho]
theorem Zkn(tmps:Array Value)(j:Nat):yielded (nu p ops) tmps (pos j p 0)=yielded ops tmps j:=by
 by_cases hj:j<ops.size
 ·have ho:ops[j]?=some ops[j]:=aU hj
  have h1:=VC hp (HJ hp hj).2 ho
  simp only[yielded,h1,ho,aW]
  rfl
 ·have h1:ops[j]?=none:=gR (by omega)
  have h2:(nu p ops)[pos j p 0]?=none:=by
   refine gR ?_
   rw[Qs1 hp]
   by_cases h:pos j p 0<ops.size
   ·exact(hj (Ziv hp h)).elim
   ·omega
  simp only[yielded,h1,h2,Option.bind_none]
theorem Zp4(tmps:Array Value):Region.wanted (MS p o) (yielded (nu p ops) tmps)=Region.wanted o (yielded ops tmps):=by
 unfold Region.wanted MS
 cases hg:o.guard with
 |none=>rfl
 |some jw=>obtain⟨j,w⟩:=jw;simp only[Zkn hp]
theorem zz{K K':Act->World->Prop}(hi:i<ops.size)(hK:∀a w,K' a w->K a w)(h:wpOp P (nu p ops) Q (pos i p 0) K' a w):wpOp P ops Q i K a w:=by
 have ho:ops[i]?=some ops[i]:=aU hi
 have h1:=VC hp (HJ hp hi).2 ho
 unfold wpOp at h⊢
 simp only[ho]
 simp only[h1,Zp4 hp]at h
 split at h
 ·rename_i hw
  rw[if_pos hw]
  exact WN (Q:=Q) hK h
 ·rename_i hw
  rw[if_neg hw]
  exact hK _ _ h
theorem Zuh:∀(fuel:Nat) (ar ff:Array Bool) (a:Act) (w:World),ar.size=ops.size->ff.size=ops.size->(∀i,i<ops.size->ff.getD (pos i p 0) false=ar.getD i false)->
 Ie P .any (nu p ops) Q fuel ff a w->Ie P .any ops Q fuel ar a w:=by
 have ft:=Qs1 hp
 obtain⟨f1,f2,f3,f4⟩:=VB hp
 have up:∀(ar ff:Array Bool) (i:Nat),ar.size=ops.size->ff.size=ops.size->(∀i,i<ops.size->ff.getD (pos i p 0) false=ar.getD i false)->i∈Region.ready .any ops ar->i<ops.size/\pos i p 0∈Region.ready .any (nu p ops) ff:=by
  intro ar ff i h1 h2 h3 hi
  obtain⟨o,ho,g1,g2⟩:=(Q7 h1).1 hi
  have bd:=(Array.getElem?_eq_some_iff.1 ho).1
  refine⟨bd,(Q7 (by rw[h2,ft])).2 ⟨_,VC hp (HJ hp bd).2 ho,by rw[h3 i bd];exact g1,λe he hb=>?_⟩⟩
  simp only[MS,gS]at he
  obtain⟨e',w5,rfl⟩:=he
  have:=g2 e' w5 hb
  have Kz:e'.on<ops.size:=by
   by_cases h:e'.on<ops.size
   ·exact h
   ·rw[aY,dif_neg (by omega)]at this;cases this
  show ff.getD (pos e'.on p 0) false=true
  rw[h3 _ Kz];exact this
 have down:∀(ar ff:Array Bool) (k:Nat),ar.size=ops.size->ff.size=ops.size->(∀i,i<ops.size->ff.getD (pos i p 0) false=ar.getD i false)->k∈Region.ready .any (nu p ops) ff->∃i,i∈Region.ready .any ops ar:=by
  intro ar ff k h1 h2 h3 hk
  obtain⟨o',jo,g1,g2⟩:=(Q7 (by rw[h2,ft])).1 hk
  have bd:=(Array.getElem?_eq_some_iff.1 jo).1
  rw[ft]at bd
  have Bm:p[k]?=some p[k]:=List.getElem?_eq_getElem (by omega)
  have hi:=f3 _ (fO Bm)
  have ho:ops[p[k]]?=some ops[p[k]]:=aU hi
  have RO:pos p[k] p 0=k:=by
   have:=(HJ hp hi).2
   exact(List.getElem?_inj (by have:=(HJ hp hi).1;omega) f4).1 (this.trans Bm.symm)
  have h4:=VC hp Bm ho
  rw[jo]at h4;cases h4
  refine⟨p[k],(Q7 h1).2 ⟨_,ho,by rw[<-h3 _ hi,RO];exact g1,λe he hb=>?_⟩⟩
  have:=g2 (Dm p e) (by simp only[MS,gS];exact⟨e,he,rfl⟩) hb
  have this:ff.getD (pos e.on p 0) false=true:=this
  have Kz:pos e.on p 0<ops.size:=by
   by_cases h:pos e.on p 0<ops.size
   ·exact h
   ·rw[aY,dif_neg (by omega)]at this;cases this
  rw[<-h3 _ (Ziv hp Kz)];exact this
 intro fuel
 induction fuel with
 |zero=>
  intro ar ff a w h1 h2 h3 h
  refine⟨?_,h.2⟩
  cases hr:Region.ready .any ops ar with
  |nil=>rfl
  |cons i l=>
   have:=(up ar ff i h1 h2 h3 (by rw[hr];simp)).2
   rw[h.1]at this;cases this
 |succ fuel ih=>
  intro ar ff a w h1 h2 h3 h
  refine⟨λhe=>h.1 ?_,λi hi=>?_⟩
  ·cases hr:Region.ready .any (nu p ops) ff with
   |nil=>rfl
   |cons k l=>
    obtain⟨i,hi⟩:=down ar ff k h1 h2 h3 (by rw[hr];simp)
    rw[he]at hi;cases hi
  ·obtain⟨bd,iG⟩:=up ar ff i h1 h2 h3 hi
   refine zz hp bd (λa' w' hk=>ih _ _ a' w' (by simpa using h1) (by simpa using h2) (λk hk=>?_) hk) (h.2 _ iG)
   have hpi:=(HJ hp bd)
   have Bm:=(HJ hp hk)
   have gs:∀(A:Array Bool) (x y:Nat),x<A.size->(A.setIfInBounds x true).getD y false=if x=y then true else A.getD y false:=λA x y hx=>by
    simp only[aQ,Array.getElem?_setIfInBounds]
    split
    ·rename_i e;subst e;simp[hx]
    ·rfl
   rw[gs _ _ _ (by omega),gs _ _ _ (by omega)]
   by_cases e:i=k
   ·subst e;simp
   ·have gv:pos i p 0≠pos k p 0:=λe'=>by
     have:=Bm.2
     rw[<-e',hpi.2]at this
     exact e (Option.some.inj this)
    rw[if_neg e,if_neg gv];exact h3 k hk
end
theorem Zor{ro:Option Nat}(hm:P.follows .mixedOrders=true){N M id:Nat}{Q:Ex->St->Prop}(hT:ji P T)(hG:jB P G){p:List Nat}(hp:VA p ops.size=true)(h:lW T G N M (nu p ops) (nu p ops).toList st λst=>cv (RE G (nu p ops) st.env) (Q .normal st)):tW ro P N M (.region id ops true) st Q:=by
 intro c0 w0 c w a hs
 have hs:=hs.drew
 refine Qym hm ?_
 refine Zuh hp ops.size _ (gI ops.size false) a _ (by simp) (by simp) (λi hi=>by simp[aY,(HJ hp hi).1,hi]) ?_
 obtain⟨s,ks,val,h1,h2,h3,h4,h5,h6⟩:=Zm1 hT hG (nu p ops).toList 0 st (by simp) h
 have hc:Vy P G N M (nu p ops) s ks val:=⟨⟨λi o ho=>h3 i o (bC _) ho,λi o t ho=>h4 i o t (bC _) ho,λi o t ho=>h5 i o t (bC _) ho⟩,λi o ho=>h6 i o (bC _) ho⟩
 have ft:s (0+(nu p ops).toList.length)=s (nu p ops).size:=by simp
 rw[ft]at h2
 obtain⟨hd,h2⟩:=dd.1 h2
 have kX:=Qs1 hp
 obtain⟨d,g1,g2,g3,g4⟩:=No G (nu p ops) _ 0 rfl (bC _)
 have hz:∀i,(gI (nu p ops).size false).getD i false=false:=λi=>by
  by_cases h:i<(nu p ops).size
  ·simp[aY,h]
  ·simp[aY,h]
 rw[<-kX]
 refine qz hc hd (Q:=λe a' w'=>∃ex jq c',mO e=some ex/\Q ex jq/\fj N M c0 w0 c' w' jq a') (λc w a iT=>⟨_,_,c,rfl,h2,iT⟩) (nu p ops).size _ a _ 0 d (by simp) (Wy _ _)
  ⟨g1,g2,λi hi=>by omega,g3,g4,λj hj=>by simp[hz]at hj,hs.size,hs.defers,hs.fy,hs.gw,c,λ_=>0,hs.mem,λr=>?_,λt _ _=>?_,hs.reach,λi _ hl=>by simp[hz]at hl,λi j _ _ hl=>by simp[hz]at hl⟩
 ·rw[SW (λi _=>hz _),h1];exact hs.rows r
 ·rw[SV (λi _=>hz _),h1];exact hs.env t
theorem yz(hm:P.follows .mixedOrders=true):pB P:=by
 intro ro T G N M id ops st Q hT hG h
 unfold uR at h
 split at h
 ·rename_i hd
  exact xa hm ro T G N M id ops st Q hT hG hd h
 ·obtain⟨h1,h2⟩:=dd.1 h
  exact Zor hm hT hG h1 h2
