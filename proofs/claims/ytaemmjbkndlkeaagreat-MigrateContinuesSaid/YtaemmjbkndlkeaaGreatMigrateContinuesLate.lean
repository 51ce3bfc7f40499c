import Derived.Test.YtaemmjbkndlkeaaGreatMigrateContinuesDraw
open List renaming mem_cons_self->eU,getD->aV,getElem?_eq_none->aJ,mem_of_getElem?->fL,mem_append_left->eS,mem_append_right->eX,mem_filter->gM,mem_range->gN
open Array renaming mem_toList_iff->gL,toArray_toList->bW,getElem?_eq_getElem->aU,getElem?_setIfInBounds_ne->aZ,getD->aY,getD_eq_getD_getElem?->aQ,getElem?_eq_none->gO,mem_map->gP,replicate->gE
open Option renaming bind_some->aW,map_some->bA,getD_some->aR
open Bool renaming or_eq_true->aT,false_eq_true->aA,not_eq_true'->bB
open Nat renaming lt_of_lt_of_le->bM,le_refl->aX,add_zero->aB,zero_le->bC
set_option linter.all false
namespace Go.GD
open Go
set_option linter.unusedSectionVars false
variable {G:List bc}{K:D->Rows->Prop}{M N b i j k off r u:Nat}{P:Program}{Q:Exit->Act->World->Prop}{R:Rows}{T:iu}{a:Act}{arr:Array Value}{c c' c0:Ctx}{d:D}{ev:Operand->D}{dr:Nat->Bool}{o x y:Oper}{op:Op}{ops:Array Oper}{pl:Bool}{q:List Nat}{row:Row}{s:Nat->St}{st:St}{t:TypeId}{ti:TI}{ty:ta}{v:Value}{val:Nat->D}{w w' w0:World}
theorem Zbw{K:D->Prop}(h:ur pl ty d K):∃d',K d'/\∀K2:D->Prop,K2 d'->ur pl ty d K2:=by
 cases ty<;>simp only[ur]at h⊢
 ·exact⟨_,(dd.1 h).2,λK2 h2=>dd.2 ⟨(dd.1 h).1,h2⟩⟩
 ·exact⟨_,(dd.1 h).2,λK2 h2=>dd.2 ⟨(dd.1 h).1,h2⟩⟩
 ·exact⟨_,(dd.1 h).2,λK2 h2=>dd.2 ⟨(dd.1 h).1,h2⟩⟩
 ·cases pl
  ·simp only[D.c8]at h⊢
   exact⟨_,(dd.1 h).2,λK2 h2=>dd.2 ⟨(dd.1 h).1,h2⟩⟩
  ·exact⟨_,(dd.1 h).2,λK2 h2=>dd.2 ⟨(dd.1 h).1,h2⟩⟩
 ·cases pl
  ·simp only[D.c8]at h⊢
   exact⟨_,(dd.1 h).2,λK2 h2=>dd.2 ⟨(dd.1 h).1,h2⟩⟩
  ·cases d<;>first|exact h.elim|exact⟨_,h,λK2 h2=>h2⟩
theorem ZB{pl:Bool}{e:List D}:∀{dj:List ta} {off:Nat} {K:List D->Prop},IY pl e dj off K->∃ds,K ds/\∀K2:List D->Prop,K2 ds->IY pl e dj off K2
 |[],off,K,h=>⟨[],h,λK2 h2=>h2⟩
 |t::ts,off,K,h=>by
  simp only[IY]at h⊢
  obtain⟨d,hd,h1⟩:=Zbw h
  obtain⟨ds,DH,h2⟩:=ZB hd
  exact⟨_,DH,λK2 hk=>h1 _ (h2 _ hk)⟩
theorem UH{e:List D}{K:D->Prop}(h:uu pl ti e off K):∃d,K d/\∀K2:D->Prop,K2 d->uu pl ti e off K2:=by
 unfold uu at h
 cases hg:ti.kind.isAgg with
 |true=>
  simp only[hg]at h
  obtain⟨ds,h1,h2⟩:=ZB h
  exact⟨_,h1,λK2 hk=>by unfold uu;simp only[hg];exact h2 _ hk⟩
 |false=>
  simp only[hg]at h
  split at h
  ·rename_i y hy
   obtain⟨d,h1,h2⟩:=Zbw h
   exact⟨_,h1,λK2 hk=>by unfold uu;simp only[hg,hy];exact h2 _ hk⟩
  ·exact h.elim
theorem Zj6(h:wv T t (.ptr r i off) R K):
 ∃d,K d R/\(∃row,R.getD r none=some row)/\∀R2:Rows,R2.getD r none=R.getD r none->wv T t (.ptr r i off) R2 λd' R'=>d'=d/\R'=R2:=by
 unfold wv at h
 cases hT:T.get t with
 |none=>simp only[hT]at h
 |some ti=>
  simp only[hT]at h
  cases hr:R.getD r none with
  |none=>simp only[hr]at h
  |some row=>
   obtain⟨box,ty,sz,es⟩:=row
   simp only[hr,dd]at h
   obtain⟨h0,h⟩:=h
   obtain⟨d,h1,h2⟩:=UH h
   refine⟨d,h1,?_,λR2 um=>?_⟩
   ·exact⟨_,rfl⟩
   ·unfold wv
    simp only[hT,um,dd]
    exact⟨h0,h2 _ (by simp)⟩
theorem Zsc(h:pf d=true)(ks:List Nat):d.gk ks=d.ed ks:=by cases d<;>first|rfl|cases h
theorem Zsn{d d':D}{ks:List Nat}(h:ur pl ty d λx=>x=d')(hd:d'.ed ks=d'):d.ed ks=d:=by
 cases ty<;>simp only[ur]at h
 ·cases d<;>first|rfl|(simp[D.isInt,dd]at h;done)
 ·cases d<;>first|rfl|(simp[D.isBool,dd]at h;done)
 ·cases d<;>first|rfl|(simp[D.isStr,dd]at h;done)
 ·cases pl
  ·simp only[D.c8,dd]at h
   rw[h.2];exact hd
  ·simp only[dd]at h
   cases d<;>first|rfl|(simp[D.EN,dd]at h;done)
 ·cases pl
  ·simp only[D.c8,dd]at h
   rw[h.2];exact hd
  ·cases d<;>first|exact h.elim|rfl
theorem Zbe{ks:List Nat}:∀{l:List D} {j:Nat},(D.kf ks l).getD j .dead=(l.getD j .dead).ed ks
 |[],_=>rfl
 |_::_,0=>rfl
 |_::l,j+1=>Zbe (l:=l) (j:=j)
theorem Zlu(ks:List Nat)(row:Row)(i off:Nat):((row.kill ks).es.get i).getD off .dead=(row.es.get i).getD off .dead\/((row.kill ks).es.get i).getD off .dead=((row.es.get i).getD off .dead).ed ks:=by
 unfold Row.kill
 split
 ·rename_i ty sz e
  cases i with
  |zero=>exact .inr Zbe
  |succ i=>exact .inl rfl
 ·exact .inl rfl
theorem Zni{v:D}{ks:List Nat}(h:uu pl ti (row.es.get i) off λx=>x=v)(hv:pf v=true)(hk:v.ed ks=v):uu pl ti ((row.kill ks).es.get i) off λx=>x=v:=by
 unfold uu at h⊢
 cases hg:ti.kind.isAgg with
 |true=>
  simp only[hg]at h
  obtain⟨ds,h1,_⟩:=ZB h
  rw[<-h1]at hv;cases hv
 |false=>
  simp only[hg]at h⊢
  split at h
  ·rename_i y hy
   have e:((row.kill ks).es.get i).getD off .dead=(row.es.get i).getD off .dead:=by
    rcases Zlu ks row i off with e|e
    ·exact e
    ·rw[e];exact Zsn h hk
   rw[e];exact h
  ·exact h.elim
theorem Z2{pl:Bool}{ti:TI}{i off:Nat}{v:D}(hv:pf v=true):∀{L:List (List Nat)} {row:Row},(∀kk∈L,v.ed kk=v)->(uu pl ti (row.es.get i) off λx=>x=v)->uu pl ti ((L.foldl (λr k=>Row.kill k r) row).es.get i) off λx=>x=v
 |[],_,_,h=>h
 |k::L,row,hL,h=>Z2 hv (L:=L) (row:=row.kill k) (λkk hk=>hL kk (List.mem_cons_of_mem _ hk)) (Zni h hv (hL k (eU ..)))
theorem Z54:∀(L:List (List Nat)) (row:Row),(L.foldl (λr k=>Row.kill k r) row).box=row.box/\(L.foldl (λr k=>Row.kill k r) row).sz=row.sz
 |[],_=>⟨rfl,rfl⟩
 |k::L,row=>by
  obtain⟨k1,k2,k3,k4⟩:=uT k row
  obtain⟨h1,h2⟩:=Z54 L (row.kill k)
  exact⟨h1.trans k1,h2.trans k3⟩
theorem Zrg{R R2:Rows}{v:D}{L:List (List Nat)}(h:wv T t (.ptr r i off) R λd' R'=>d'=v/\R'=R)(hv:pf v=true)(hL:∀kk∈L,v.ed kk=v)(hr:R.getD r none=some row)(um:R2.getD r none=some (L.foldl (λr k=>Row.kill k r) row)):
 wv T t (.ptr r i off) R2 λd' R'=>d'=v/\R'=R2:=by
 obtain⟨s1,s2⟩:=Z54 L row
 unfold wv at h⊢
 cases hT:T.get t with
 |none=>simp only[hT]at h
 |some ti=>
  simp only[hT,hr]at h
  simp only[hT,um]
  obtain⟨box,ty,sz,es⟩:=row
  simp only at h s1 s2
  generalize c6:L.foldl (λr k=>Row.kill k r) (⟨box,ty,sz,es⟩:Row)=jq at s1 s2⊢
  obtain⟨P4,ty2,sz2,es2⟩:=jq
  simp only at s1 s2⊢
  subst s1;subst s2
  simp only[dd]at h⊢
  refine⟨h.1,?_⟩
  have hx:uu (!P4) ti (es.get i) off λx=>x=v:=by
   obtain⟨d,h1,h2⟩:=UH h.2
   exact h2 _ h1.1
  have:=Z2 (L:=L) (row:=⟨P4,ty,sz2,es⟩) hv hL hx
  rw[c6]at this
  obtain⟨d,h1,h2⟩:=UH this
  exact h2 _ ⟨h1,by first|trivial|rfl⟩
theorem Zfg(h:G2 T t (.ptr r i off) d R K):
 ∃R',K .dead R'/\(∀r',r'≠r->R'.getD r' none=R.getD r' none)/\G2 T t (.ptr r i off) d R λd' R2=>d'=.dead/\R2=R':=by
 unfold G2 at h
 cases hT:T.get t with
 |none=>simp only[hT]at h
 |some ti=>
  simp only[hT]at h
  cases hr:R.getD r none with
  |none=>simp only[hr]at h
  |some row=>
   obtain⟨box,ty,sz,es⟩:=row
   simp only[hr,dd]at h
   obtain⟨h0,h⟩:=h
   have uv:∀(x:Option Row) (r':Nat),r'≠r->(R.set r x).getD r' none=R.getD r' none:=λx r' h=>by
    simp only[aV,List.getElem?_set_ne (Ne.symm h)]
   cases box with
   |true=>
    simp only[D.e7,mX]at h
    refine⟨_,h,uv _,?_⟩
    unfold G2
    simp only[hT,hr,dd,D.e7,mX]
    exact⟨h0,by simp⟩
   |false=>
    simp only[mX]at h
    refine⟨_,h.2,uv _,?_⟩
    unfold G2
    simp only[hT,hr,dd,mX]
    exact⟨h0,h.1,by simp⟩
structure UI(P:Program)(o:Oper)(row:Row)(arr:Array Value):Prop where
 box:row.box=true
 sz:0<row.sz
 cells:∃e,row.es=.gen [e]/\e.length=row.sz/\arr.size=row.sz/\∀(c:Ctx) (w:World),ku c w e arr 0
 run:∀(ev:Operand->Value) (w:World),(execOp ev o).run P w=.ok (.value (.pointer (some ⟨w.heap.size,0,none⟩))) (w.alloc (.cells arr row.ty))
theorem Zsi(hT:Q4 P T)(ho:o.op=.alloc t){k:TK}{sz b:Nat}{cs:List ta}{ds:List D}{e:Bool}(ht:T.get t=some ⟨k,sz,b,cs,some ds,e⟩)(h0:0<sz)(hl:ds.length=sz):∃arr,UI P o ⟨true,t,sz,.gen [ds]⟩ arr:=by
 obtain⟨i,u,hi,hu,hz,_,_,_,hzero⟩:=GI hT ht
 have hb:∀(c:Ctx) (w:World),Ux c w ⟨true,t,sz,.gen [ds]⟩ u.cells:=λc w=>YU h0 hl (I3 hz c w)
 have fp:u.cells.size=sz:=by have:=LG hz;simp at this;omega
 refine⟨u.cells,⟨rfl,h0,⟨ds,rfl,hl,fp,λc w=>?_⟩,λev w=>?_⟩⟩
 ·have:=(hb c w).2
  simp only[if_true]at this
  obtain⟨e',h1,_,_,h4⟩:=this
  cases h1;exact h4
 ·simp only[execOp,ho,Instr.alloc,Sem.run_bind,hzero,Result.andThen_ok,YV,Sem.run_pure]
structure Ji(P:Program)(G:List bc)(o:Oper)(env:List (Nat×D))(R:Rows)(ks:List Nat)(val:D)(R':Rows):Prop where
 ld:∀t a r ii off,o.guard=none->o.op=.load t (.tmp a)->look env a=.ptr r ii off->ks=[]/\R'=R/\(∃row,R.getD r none=some row)/\(∀(ev:Operand->D) (R2:Rows),ev (.tmp a)=.ptr r ii off->R2.getD r none=R.getD r none->pz P o ev R2 val R2)/\∀(ev:Operand->D) (R2:Rows) row (L:List (List Nat)),pf val=true->(∀kk∈L,val.ed kk=val)->ev (.tmp a)=.ptr r ii off->R.getD r none=some row->R2.getD r none=some (L.foldl (λr k=>Row.kill k r) row)->pz P o ev R2 val R2
 st:∀t b x r ii off,o.guard=none->o.op=.store t (.tmp b) x->look env b=.ptr r ii off->ks=[]/\∀r',r'≠r->R'.getD r' none=R.getD r' none
 pu:∀q,o.guard=none->lJ env o.op=some q->ks=[]/\R'=R/\∀(ev:Operand->D) (R2:Rows),(∀x∈o.op.operands,ev x=cq env x)->pz P o ev R2 val R2
 cl:∀f args dj,o.guard=none->o.op=.call ⟨.value (.func f),args,dj⟩->(Qc G f=none/\Z8 G f=false)->ks=[]
 al:∀t,o.guard=none->o.op=.alloc t->ks=[]/\∃row arr,UI P o row arr/\val=.ptr R.length 0 0/\R'=R++[some row]
 ap2:∀args dj,o.guard=none->o.op=.call ⟨.builtin .append,args,dj⟩->∀r row,R.getD r none=some row->cv r ks=false->R'.getD r none=some (row.kill ks)
 ap:∀args dj x l,o.guard=none->o.op=.call ⟨.builtin .append,args,dj⟩->args.toList=.tmp x::l->Jj (look env x)=true->ks=[]/\∀r row,R.getD r none=some row->R'.getD r none=some row
theorem Ao{a:Nat}:∀{l:List Operand},a∈my l↔Operand.tmp a∈l
 |[]=>by simp[my]
 |x::l=>by cases x<;>simp[my,Ao (l:=l)]
theorem Zn8(h:pj op=some q){a:Nat}(ha:Operand.tmp a∈op.operands):a∈q:=by
 unfold pj at h
 split at h
 ·cases h;rw[Ao];simpa[Op.operands]using ha
 ·cases h;rw[Ao];simpa[Op.operands]using ha
 ·cases h;rw[Ao];simpa[Op.operands]using ha
 ·cases h;rw[Ao];simpa[Op.operands]using ha
 ·cases h;rw[Ao];simpa[Op.operands]using ha
 ·split at h
  ·cases h
  ·cases h;rw[Ao];simpa[Op.operands]using ha
 ·cases h
theorem Zfe(h:pj op=some q):rO G op=false/\FM op=false/\(∀t x,op≠.load t x)/\(∀t x y,op≠.store t x y)/\∀c,op≠.call c:=by
 unfold pj at h
 split at h<;>first|exact⟨rfl,rfl,λ_ _ h=>(by cases h),λ_ _ _ h=>(by cases h),λ_ h=>(by cases h)⟩|cases h
theorem yU(hq:pj op=some q)(h:gz T op ev R K):
 ∃val,K val R/\∀(ig:Operand->D) (R2:Rows),(∀x∈op.operands,ig x=ev x)->gz T op ig R2 λd R'=>d=val/\R'=R2:=by
 unfold pj at hq
 split at hq
 ·rename_i x
  simp only[gz,D.c8]at h⊢
  exact⟨_,h,λig R2 he=>⟨he x (by simp[Op.operands]),trivial⟩⟩
 ·rename_i x
  simp only[gz,D.c8]at h⊢
  exact⟨_,h,λig R2 he=>⟨he x (by simp[Op.operands]),trivial⟩⟩
 ·rename_i x n
  simp only[gz]at h⊢
  split at h
  ·rename_i ds DH
   simp only[dd,D.c8]at h
   refine⟨_,h.2,λig R2 he=>?_⟩
   rw[he x (by simp[Op.operands]),DH]
   simp only[dd,D.c8]
   exact⟨h.1,trivial,trivial⟩
  ·exact h.elim
 ·rename_i x
  simp only[gz]at h⊢
  split at h
  ·rename_i hx
   refine⟨_,h,λig R2 he=>?_⟩
   rw[he x (by simp[Op.operands]),hx]
   simp
  ·rename_i hx
   refine⟨_,h,λig R2 he=>?_⟩
   rw[he x (by simp[Op.operands]),hx]
   simp
  ·exact h.elim
 ·rename_i t x f
  simp only[gz]at h⊢
  split at h
  ·simp only[dd]at h⊢
   obtain⟨h0,h⟩:=h
   split at h
   ·rename_i hx
    refine⟨_,h,λig R2 he=>⟨h0,?_⟩⟩
    rw[he x (by simp[Op.operands]),hx]
    simp
   ·rename_i hx
    refine⟨_,h,λig R2 he=>⟨h0,?_⟩⟩
    rw[he x (by simp[Op.operands]),hx]
    simp
   ·exact h.elim
  ·exact h.elim
 ·rename_i t len parts
  simp only[gz,He]at h⊢
  cases hl:Un t len
  rotate_left
  ·simp only[hl]at hq;cases hq
  simp only[hl,wS]at h⊢
  obtain⟨val,h1,h2⟩:=Zo4 h
  exact⟨val,h1,λig R2 he=>h2 ig R2 λp hp=>he p.2 (by simp[Op.operands];exact⟨p.1,by simpa using hp⟩)⟩
 ·cases hq
theorem yw(hq:pj o.op=some q){K:St->Prop}(h:lF T G N M o st K):gz T o.op (cq st.env) st.rows λd R=>st.put N o.dst d R K:=by
 obtain⟨dst,op,type,pos,after,guard⟩:=o
 simp only at hq⊢
 unfold pj at hq
 split at hq<;>first|exact h|cases hq
theorem qav{op:BinOp}{x y:D}{K:D->Prop}(h:sB T op t x y K):∃val,K val/\∀K',K' val->sB T op t x y K':=by
 unfold sB at h⊢
 split at h
 ·split at h
  ·simp only[dd]at h⊢;exact⟨_,h.2,λK' h'=>⟨h.1,h'⟩⟩
  ·simp only[dd]at h⊢;exact⟨_,h.2,λK' h'=>⟨h.1,h'⟩⟩
  ·rename_i n1 n2
   simp only[dd]at h⊢
   obtain⟨h1,h⟩:=h
   unfold Uu at h⊢
   split at h<;>first|exact⟨_,h,λK' h'=>⟨h1,h'⟩⟩|(simp only[dd]at h⊢;exact⟨_,h.2,λK' h'=>⟨h1,h.1,h'⟩⟩)|exact h.elim
 ·split at h<;>first|exact⟨_,h,λK' h'=>h'⟩|(simp only[dd]at h⊢;exact⟨_,h.2,λK' h'=>⟨h.1,h'⟩⟩)|exact h.elim
 ·split at h
  ·split at h<;>first|exact⟨_,h,λK' h'=>h'⟩|exact h.elim
  ·exact h.elim
 ·split at h
  ·simp only[dd]at h⊢
   obtain⟨h1,h⟩:=h
   split at h<;>first|exact⟨_,h,λK' h'=>⟨h1,h'⟩⟩|exact h.elim
  ·exact h.elim
 ·exact h.elim
theorem vU{s d:TypeId}{x:D}{K:D->Prop}(h:LV T s d x K):∃val,K val/\∀K',K' val->LV T s d x K':=by
 unfold LV at h⊢
 split at h
 ·split at h
  ·exact⟨_,h,λK' h'=>h'⟩
  ·exact h.elim
 ·split at h
  ·exact⟨_,h,λK' h'=>h'⟩
  ·exact h.elim
 ·exact h.elim
theorem ZC{place:Nat->Option (Nat×Nat)}{ev:Operand->D}:∀{parts:List (Nat×Operand)} {cs:List D} {K:List D->Prop},EU place ev parts cs K->∃l,K l/\∀(ig:Operand->D) (K':List D->Prop),(∀p∈parts,ig p.2=ev p.2)->K' l->EU place ig parts cs K'
 |[],cs,K,h=>by
  simp only[EU,D.e7]at h⊢
  exact⟨_,h,λig K' _ h'=>h'⟩
 |(i,x)::ps,cs,K,h=>by
  simp only[EU]at h⊢
  split at h
  ·rename_i off n hp
   simp only[dd]at h
   obtain⟨h1,h⟩:=h
   obtain⟨l,g1,g2⟩:=ZC h
   refine⟨l,g1,λig K' he h'=>?_⟩
   have hx:=he (i,x) (by simp)
   simp only at hx
   simp only[hx,dd]
   exact⟨h1,g2 ig K' (λp hpp=>he p (by simp[hpp])) h'⟩
  ·exact h.elim
theorem vw{parts:List (Nat×Operand)}(h:LX T t parts ev R K):∃val,K val R/\∀(ig:Operand->D) (R2:Rows),(∀p∈parts,ig p.2=ev p.2)->LX T t parts ig R2 λd R'=>d=val/\R'=R2:=by
 unfold LX at h⊢
 split at h
 ·simp only[dd]at h⊢
  obtain⟨h1,h⟩:=h
  obtain⟨l,g1,g2⟩:=ZC h
  exact⟨_,g1,λig R2 he=>⟨h1,g2 ig _ he (by simp)⟩⟩
 ·simp only[dd]at h⊢
  obtain⟨h1,h⟩:=h
  obtain⟨l,g1,g2⟩:=ZC h
  exact⟨_,g1,λig R2 he=>⟨h1,g2 ig _ he (by simp)⟩⟩
 ·exact h.elim
theorem ZD{str:List UInt8}{lo hi:Option Operand}(h:LW T t (.str str) lo hi ev R K):∃val,K val R/\∀(ig:Operand->D) (R2:Rows),(∀y,lo=some y->ig y=ev y)->(∀y,hi=some y->ig y=ev y)->LW T t (.str str) lo hi ig R2 λd R'=>d=val/\R'=R2:=by
 have P5:∀(x:Option Operand) (n:Int) (ig:Operand->D),(∀y,x=some y->ig y=ev y)->rG x ig n=rG x ev n:=λx n ig he=>by
  unfold rG
  cases x with
  |none=>rfl
  |some y=>simp only[he y rfl]
 unfold LW at h⊢
 split at h
 ·rename_i x1 x2 x3 x4 x5 ht
  simp only at h
  split at h
  ·rename_i l hh e1 e2
   simp only[dd]at h
   refine⟨_,h.2,λig R2 he1 he2=>?_⟩
   simp only[P5 _ _ ig he1,P5 _ _ ig he2,e1,e2,dd]
   exact⟨h.1,trivial,trivial⟩
  ·exact h.elim
 ·simp only at h
 ·exact h.elim
 ·exact h.elim
theorem qx{env:List (Nat×D)}(hq:lJ env op=some q)(h:gz T op (cq env) R K):
    ∃val,K val R/\ ∀(ig:Operand->D) (R2:Rows),(∀x∈op.operands,ig x=cq env x)->gz T op ig R2 λd R'=>d=val/\R'=R2:=by
  unfold lJ at hq
  split at hq
  . rename_i q' hp;exact yU hp h
  . split at hq
    . rename_i t parts hn
      simp only[gz]at h⊢
      obtain⟨val,g1,g2⟩:=vw h
      exact⟨val,g1,λig R2 he=>g2 ig R2 λp hp=>he p.2 (by simp [Op.operands];exact⟨p.1,by simpa using hp⟩)⟩
    . rename_i op' t x y ty hn
      simp only[gz]at h⊢
      obtain⟨val,g1,g2⟩:=qav h
      refine⟨val,g1,λig R2 he=> ?_⟩
      rw[he x (by simp [Op.operands]),he y (by simp [Op.operands])]
      exact g2 _ (by simp)
    . rename_i op' t x hn
      simp only[gz]at h⊢
      split at h
      all_goals first
        |exact h.elim
        | (rename_i hx
           refine⟨_,h,λig R2 he=> ?_⟩
           rw[he x (by simp [Op.operands]),hx]
           simp)
    . rename_i s d x hn
      simp only[gz]at h⊢
      obtain⟨val,g1,g2⟩:=vU h
      refine⟨val,g1,λig R2 he=> ?_⟩
      rw[he x (by simp [Op.operands])]
      exact g2 _ (by simp)
    . rename_i s x f hn
      simp only[gz]at h⊢
      split at h
      . split at h
        . rename_i cs ti hx ht
          simp only[dd]at h
          obtain⟨h1,h⟩:=h
          split at h
          . rename_i Cs
            simp only[D.e7]at h
            refine⟨_,h,λig R2 he=> ?_⟩
            simp only[he x (by simp [Op.operands]),hx,ht,dd,Cs,D.e7]
            exact⟨h1,trivial,trivial⟩
          . rename_i Cs
            simp only[dd,D.c8]at h
            refine⟨_,h.2,λig R2 he=> ?_⟩
            simp only[he x (by simp [Op.operands]),hx,ht,dd,Cs,D.c8]
            exact⟨h1,h.1,trivial,trivial⟩
        . exact h.elim
      . exact h.elim
    . rename_i t x y hn
      simp only[gz]at h⊢
      split at h
      . rename_i ht hx hy
        simp only[dd]at h
        refine⟨_,h.2,λig R2 he=> ?_⟩
        simp only[he x (by simp [Op.operands]),he y (by simp [Op.operands]),hx,hy,ht,dd]
        exact⟨h.1,trivial,trivial⟩
      . rename_i ht hx hy
        simp only[dd]at h
        obtain⟨h1,h⟩:=h
        split at h
        . rename_i wK
          refine⟨_,h.2,λig R2 he=> ?_⟩
          simp only[he x (by simp [Op.operands]),he y (by simp [Op.operands]),hx,hy,ht,dd,wK]
          exact⟨h1,h.1,trivial,trivial⟩
        . rename_i wK
          refine⟨_,h.2,λig R2 he=> ?_⟩
          simp only[he x (by simp [Op.operands]),he y (by simp [Op.operands]),hx,hy,ht,dd,wK]
          exact⟨h1,h.1,trivial,trivial⟩
        . exact h.elim
      . exact h.elim
    . rename_i t x y z hn
      split at hq
      . rename_i str hx
        simp only[gz,hx]at h⊢
        obtain⟨val,g1,g2⟩:=ZD h
        refine⟨val,g1,λig R2 he=> ?_⟩
        rw[he x (by simp [Op.operands]),hx]
        exact g2 ig R2 (λu hu=>he u (by cases hu;simp [Op.operands])) (λu hu=>he u (by cases hu;simp [Op.operands]))
      . cases hq
    . rename_i t x y hn
      split at hq
      . rename_i str hx
        simp only[gz,hx]at h⊢
        obtain⟨val,g1,g2⟩:=ZD h
        refine⟨val,g1,λig R2 he=> ?_⟩
        rw[he x (by simp [Op.operands]),hx]
        exact g2 ig R2 (λu hu=>he u (by cases hu;simp [Op.operands])) (λu hu=>he u (by cases hu))
      . cases hq
    . rename_i t x y hn
      split at hq
      . rename_i str hx
        simp only[gz,hx]at h⊢
        obtain⟨val,g1,g2⟩:=ZD h
        refine⟨val,g1,λig R2 he=> ?_⟩
        rw[he x (by simp [Op.operands]),hx]
        exact g2 ig R2 (λu hu=>he u (by cases hu)) (λu hu=>he u (by cases hu;simp [Op.operands]))
      . cases hq
    . rename_i t x y hn
      split at hq
      . rename_i sz es fr hx
        simp only[gz,hx]at h⊢
        split at h
        . rename_i k n hy
          unfold Uw at h⊢
          split at h
          . rename_i ht
            simp only[dd]at h
            refine⟨_,h.2,λig R2 he=> ?_⟩
            simp only[he x (by simp [Op.operands]),he y (by simp [Op.operands]),hx,hy,ht,dd]
            exact⟨h.1,trivial,trivial⟩
          . simp only[dd]at h
            exact h.2.elim
          . exact h.elim
        . exact h.elim
      . cases hq
    . rename_i t x hn
      split at hq
      . rename_i sz es i off hx
        simp only[gz,hx]at h⊢
        unfold wv at h⊢
        split at h
        . exact h.elim
        . rename_i ti ht
          simp only[dd]at h
          obtain⟨d,g1,g2⟩:=UH h.2
          refine⟨d,g1,λig R2 he=> ?_⟩
          simp only[he x (by simp [Op.operands]),hx,ht,dd]
          exact⟨h.1,g2 _ (by simp)⟩
      . cases hq
    . rename_i args dj hn
      split at hq
      . rename_i x fq
        have hxm:x∈(Op.call {callee:= .builtin .len,args:=args,argTypes:=dj}).operands:=by simp [Op.operands,Call.operands];rw[<-gL,fq];simp
        simp only[gz,fq]at h⊢
        split at h
        . rename_i y t e1 e2
          cases e1
          rw[e2]at*
          split at hq
          . rename_i str hx
            simp only[hx]at h⊢
            unfold sG at h⊢
            split at h
            . simp only at h
              exact⟨_,h,λig R2 he=>by simp only[he x hxm,hx];simp⟩
            . exact h.elim
            . exact h.elim
          . rename_i sz es fr hx
            simp only[hx]at h⊢
            unfold sG at h⊢
            split at h
            . exact h.elim
            . simp only at h
              exact⟨_,h,λig R2 he=>by simp only[he x hxm,hx];simp⟩
            . exact h.elim
          . cases hq
        . exact h.elim
      . cases hq
    . cases hq
theorem ZE{env:List (Nat×D)}(h:lJ env op=some q){a:Nat}(ha:Operand.tmp a∈op.operands):a∈q:=by
 unfold lJ at h
 split at h
 ·cases h;exact Zn8 (by assumption) ha
 ·split at h
  all_goals first
   |(cases h;done)
   |(cases h;rw[Ao];simpa[Op.operands]using ha)
   |(split at h<;>first|(cases h;done)|(cases h;rw[Ao];simpa[Op.operands]using ha))
   |skip
  split at h
  ·rename_i x hx
   have ju:Operand.tmp a=x:=by
    simp[Op.operands,Call.operands]at ha
    rw[<-gL,hx]at ha
    simpa using ha
   split at h<;>first|(cases h;done)|(cases h;rw[Ao,ju];simp)
  ·cases h
theorem Z5d{env:List (Nat×D)}(h:lJ env op=some q):rO G op=false/\FM op=false/\(∀t x y,op≠.store t x y)/\(∀f args dj,op≠.call ⟨.value (.func f),args,dj⟩)/\∀t,op≠.alloc t:=by
 unfold lJ at h
 split at h
 ·rename_i q' hp
  obtain⟨h1,h2,h3,h4,h5⟩:=Zfe (G:=G) hp
  exact⟨h1,h2,h4,λ_ _ _=>h5 _,λt e=>by rw[e]at hp;cases hp⟩
 ·split at h<;>first|(cases h;done)|exact⟨rfl,rfl,λ_ _ _ h=>(by cases h),λ_ _ _ h=>(by cases h),λ_ h=>(by cases h)⟩
theorem Zqv(hq:lJ st.env o.op=some q){K:St->Prop}(h:lF T G N M o st K):gz T o.op (cq st.env) st.rows λd R=>st.put N o.dst d R K:=by
  obtain⟨dst,op,type,pos,after,guard⟩:=o
  simp only at hq⊢
  unfold lJ at hq
  split at hq
  . rename_i q' hp
    exact yw (o:=⟨dst,op,type,pos,after,guard⟩) hp h
  . split at hq
    all_goals first
      |(cases hq;done)
      |exact h
      |skip
    . rename_i op' t x y ty hn
      unfold lF at h
      simp only at h
      split at h
      . rename_i hx hy
        rw[hx]at hq;cases hq
      . rename_i hx hy
        rw[hx]at hq;cases hq
      . exact h
    . rename_i s d x hn
      unfold lF at h
      simp only at h
      split at h
      . exfalso
        unfold uS at h
        split at h
        . split at h
          . rename_i he
            split at hq
            . rename_i hx;rw[hx]at he;cases he
            . rename_i hx;rw[hx]at he;cases he
            . cases hq
          . exact h
        . exact h
      . exact h
def sL:D->Bool|.all _=>true|.int _ _=>true|.str _=>true|.bool _=>true|.sl _ _ _=>true|.im _ _ _ _=>true|.ptr _ _ _=>true|.emp=>true|.c9=>true|_=>false
theorem Zfv(h:Jj d=true):sL d=true:=by cases d<;>first|rfl|cases h
theorem ZF(h:Hf d=true):sL d=true:=by cases d<;>first|rfl|cases h
theorem Zo0{ks:List Nat}{d p:D}(hp:sL p=true)(h:d.gk ks=p):d=p:=by
 subst h
 cases d with
 |all x=>simp only[D.gk,D.kill,D.ed]at hp⊢;cases hb:cv x ks<;>simp[hb,sL]at hp⊢
 |own x y z=>simp only[D.gk,D.kill,D.ed]at hp⊢;cases hb:cv x ks<;>simp[hb,sL]at hp
 |ptr x y z=>simp only[D.gk,D.kill,D.ed]at hp⊢;cases hb:cv x ks<;>simp[hb,sL]at hp⊢
 |pa x y z u v q=>simp only[D.gk,D.kill,D.ed]at hp⊢;cases hb:cv x ks<;>simp[hb,sL]at hp
 |ga x=>simp only[D.gk,D.kill,D.ed]at hp⊢;cases hb:cv x ks<;>simp[hb,sL]at hp
 |gj f cs=>simp only[D.gk,D.kill,D.ed]at hp⊢;cases hb:nB (od cs) ks<;>simp[hb,sL]at hp
 |_=>first|rfl|simp[D.gk,D.kill,D.ed,sL]at hp
theorem Ztc{env lV:List (Nat×D)}(h:lJ env op=some q)(hb: ∀a∈q,sL (look env a)=true->look lV a=look env a):lJ lV op=some q:=by
  have one: ∀(x:Operand),(∀a,x= .tmp a->a∈q)->sL (cq env x)=true->cq lV x=cq env x:=λx hx hs=>by
    cases x with
    |tmp a=>exact hb a (hx a rfl) hs
    |_=>rfl
  unfold lJ at h⊢
  split at h
  . exact h
  . split at h
    all_goals first
      |(cases h;done)
      |exact h
      |skip
    all_goals
      split at h
      all_goals first
        |(cases h;done)
        | (rename_i hx
           cases h
           first
             |(have:=one _ (λa e=>by rw[Ao,<-e];exact eU) (by rw[hx];rfl);rw[this,hx])
             |(have:=one _ (λa e=>by rw[Ao,<-e];simp) (by rw[hx];rfl);rw[this,hx]))
        |skip
    split at h
    all_goals first
      |(cases h;done)
      | (rename_i hx
         cases h
         have:=one _ (λa e=>by rw[Ao,<-e];exact eU) (by rw[hx];rfl);rw[this,hx])
theorem xx{t tx:TypeId}{x y:D}{K:List Nat->D->Rows->Prop}(h:LF T M t tx x y R K):
 LF T M t tx x y R λks d R'=>((Jj x=true->ks=[]/\∀r row,R.getD r none=some row->R'.getD r none=some row)/\∀r row,R.getD r none=some row->cv r ks=false->R'.getD r none=some (row.kill ks))/\K ks d R':=by
 have go:∀{e sz ll:Nat} {Jk:List Nat} {es ys:ai},(Jj x=true->Jk=[])->Ch e sz ll R Jk es ys K->Ch e sz ll R Jk es ys λks d R'=>((Jj x=true->ks=[]/\∀r row,R.getD r none=some row->R'.getD r none=some row)/\∀r row,R.getD r none=some row->cv r ks=false->R'.getD r none=some (row.kill ks))/\K ks d R':=by
  intro e sz ll Jk es ys hx h
  simp only[Ch,dd,mX]at h⊢
  have key:∀r row,R.getD r none=some row->cv r Jk=false->(rD Jk R 0++[some (⟨false,e,sz,es.app ys⟩:Row)]).getD r none=some (row.kill Jk):=λr row hr hm=>by
   have hl:r<R.length:=by
    by_cases hh:r<R.length
    ·exact hh
    ·simp only[aV,aJ (show R.length<=r by omega)]at hr;cases hr
   rw[Qpk (by rw[IQ];exact hl),Qr,hr,Nat.zero_add,hm]
   simp
  refine⟨h.1,⟨λe=>⟨hx e,λr row hr=>?_⟩,key⟩,h.2⟩
  have:=key r row hr (by rw[hx e];rfl)
  rw[this,hx e,Z7k]
 unfold LF at h⊢
 split at h
 ·split at h
  ·split at h
   ·rename_i jM
    simp only[dd]at h⊢
    refine⟨h.1,?_⟩
    have h:=h.2
    cases x<;>first|(exact h.elim;done)|(exact go (λ_=>rfl) h;done)|skip
    all_goals
     (try simp only at h⊢)
     split at h
     ·exact⟨h.1,go (λe=>by cases e) h.2⟩
     ·exact h.elim
   ·exact h.elim
  ·exact h.elim
 ·exact h.elim
theorem Zs3(hT:Q4 P T)(hG:jr P G){l:List Oper}{K:St->Prop}(h:lL T G N M ops (o::l) st K):
    ∃ks val R' iB,(∀t,look iB t=look (rL ks st.env) t)/\(∀t,o.dst=some t->t<N)/\nh P G M ops o st.env st.rows ks val R'/\lL T G N M ops l ⟨rM iB o.dst val,R'⟩ K/\Ji P G o st.env st.rows ks val R':=by
  by_cases hL: ∃t a r ii off,o.guard=none/\o.op= .load t (.tmp a)/\look st.env a= .ptr r ii off
  . obtain⟨t,a,r,ii,off,hg,ho,ha⟩:=hL
    simp only[lL,hg,lF,ho,gz,cq,ha]at h
    obtain⟨d,h1,h2,h3⟩:=Zj6 h
    obtain⟨g1,g2⟩:=oz h1
    have hN: ∀(ev:Operand->D) (R2:Rows),ev (.tmp a)= .ptr r ii off->R2.getD r none=st.rows.getD r none->pz P o ev R2 d R2:=λev R2 he um=>by
      have:=h3 R2 um
      obtain⟨val,R',⟨rfl,rfl⟩,hO⟩:=Z7 hT o ev R2 (λd' R'=>d'=d/\R'=R2) (by simp only[ho,gz,he];exact this)
      simpa [ho,FM] using hO
    have hN2: ∀(ev:Operand->D) (R2:Rows) row (L:List (List Nat)),pf d=true->(∀kk∈L,d.ed kk=d)->ev (.tmp a)= .ptr r ii off->st.rows.getD r none=some row->R2.getD r none=some (L.foldl (λr k=>Row.kill k r) row)->pz P o ev R2 d R2:=λev R2 row L hd hL he hr um=>by
      have:=Zrg (h3 st.rows rfl) hd hL hr um
      obtain⟨val,R',⟨rfl,rfl⟩,hO⟩:=Z7 hT o ev R2 (λd' R'=>d'=d/\R'=R2) (by simp only[ho,gz,he];exact this)
      simpa [ho,FM] using hO
    refine⟨[],d,st.rows,st.env,λt=>ow.symm,g1,?_,g2,λt' a' r' lR iF _ jh ju=> ?_,λt' b x r' lR iF _ jh=> ?_,λq _ hq=> ?_,λf args dj _ hf _=>by simp [ho]at hf,λt' _ hf=>by simp [ho]at hf,λargs dj _ hf=>by simp [ho]at hf,λargs dj x' l' _ hf=>by simp [ho]at hf⟩
    . unfold nh
      simp only[hg]
      exact Az (by rw[ho];rfl) (hN _ _ (by simp [cq,ha]) rfl)
    . rw[ho]at jh;cases jh
      rw[ha]at ju;cases ju
      exact⟨rfl,rfl,h2,hN,hN2⟩
    . rw[ho]at jh;cases jh
    . rw[ho]at hq;simp [lJ,pj,cq,ha]at hq
  . by_cases hS : ∃t b x r ii off,o.guard=none/\o.op= .store t (.tmp b) x/\look st.env b= .ptr r ii off
    . obtain⟨t,b,x,r,ii,off,hg,ho,hb⟩:=hS
      simp only[lL,hg,lF,ho,gz]at h
      rw[show cq st.env (.tmp b)= .ptr r ii off by simp [cq,hb]]at h
      obtain⟨R',h1,h2,h3⟩:=Zfg h
      obtain⟨g1,g2⟩:=oz h1
      obtain⟨val,R2,⟨rfl,rfl⟩,hO⟩:=Z7 hT o (cq st.env) st.rows (λd' R2=>d'= .dead/\R2=R') (by simp only[ho,gz];rw[show cq st.env (.tmp b)= .ptr r ii off by simp [cq,hb]];exact h3)
      refine⟨[], .dead,R2,st.env,λt=>ow.symm,g1,?_,g2,λt' a' r' lR iF _ jh=> ?_,λt' b' x' r' lR iF _ jh rr=> ?_,λq _ hq=> ?_,λf args dj _ hf _=>by simp [ho]at hf,λt' _ hf=>by simp [ho]at hf,λargs dj _ hf=>by simp [ho]at hf,λargs dj x' l' _ hf=>by simp [ho]at hf⟩
      . unfold nh
        simp only[hg]
        have hO':DV P o (cq st.env) st.rows .dead R2:=by simpa [ho,FM] using hO
        exact Bq (by rw[ho];rfl) (λk hk=>by simp [cv]at hk) hO'.toK
      . rw[ho]at jh;cases jh
      . rw[ho]at jh;cases jh
        rw[hb]at rr;cases rr
        exact⟨rfl,h2⟩
      . rw[ho]at hq;cases hq
    . by_cases hP : ∃q,o.guard=none/\lJ st.env o.op=some q
      . obtain⟨q,hg,hq⟩:=hP
        simp only[lL,hg]at h
        have rk:=Zqv hq h
        obtain⟨val,ZG,ZH⟩:=qx hq rk
        obtain⟨hW,hS',MD,hnc,hna⟩:=Z5d (G:=G) hq
        have hN: ∀(ev:Operand->D) (R2:Rows),(∀x∈o.op.operands,ev x=cq st.env x)->pz P o ev R2 val R2:=λev R2 he=>by
          obtain⟨Jao,R',⟨rfl,rfl⟩,hO⟩:=Z7 hT o ev R2 _ (ZH ev R2 he)
          simpa [hS'] using hO
        obtain⟨g1,g2⟩:=oz ZG
        refine⟨[],val,st.rows,st.env,λt=>ow.symm,g1,?_,g2,λt' a' r' lR iF hg' jh ju=>(hL ⟨t',a',r',lR,iF,hg',jh,ju⟩).elim,λt' b' x' r' lR iF _ jh=>(MD _ _ _ jh).elim,λq' _ Fh=>⟨rfl,rfl,hN⟩,λf args dj _ hf _=>(hnc _ _ _ hf).elim,λt' _ hf=>(hna _ hf).elim,λargs dj _ hf=>by rw[hf]at hq;simp [lJ,pj]at hq,λargs dj x' l' _ hf=>by rw[hf]at hq;simp [lJ,pj]at hq⟩
        unfold nh
        simp only[hg]
        exact Az hW (hN _ _ (λ_ _=>rfl))
      . by_cases hC: ∃f args dj,o.guard=none/\o.op= .call ⟨.value (.func f),args,dj⟩/\(Qc G f=none/\Z8 G f=false)
        . obtain⟨f,args,dj,hg,ho,lD,DU⟩:=hC
          obtain⟨dst,op,type,pos,after,guard⟩:=o
          simp only at hg ho
          subst hg;subst ho
          simp only[lL,lF,lD,DU]at h
          have HG: ∀x,oA G f=some x->x.oL=false:=λx hx=>by simpa [Z8,hx] using DU
          obtain⟨val,R',x,hK,hx,hO,hN⟩:=VX (dst:=dst) (type:=type) (pos':=pos) (after:=after) (guard:=none) (dj:=dj) hG lD h
          obtain⟨g1,g2⟩:=oz hK
          refine⟨[],_,_,st.env,λt=>ow.symm,g1,?_,g2,λt' a' r' lR iF _ jh=>(by cases jh),λt' b' x' r' lR iF _ jh=>(by cases jh),λq' _ Fh=>(by cases Fh),λ_ _ _ _ _ _=>rfl,λt' _ hf=>(by cases hf),λargs dj _ hf=>(by cases hf),λargs dj x' l' _ hf=>(by cases hf)⟩
          unfold nh
          cases hr:x.refs with
          |nil=>exact Az (by simp only[rO,hx,hr,HG x hx]) (hN hr)
          |cons b bs=>exact Bq (by simp only[rO,hx,hr]) (λk hk=>by simp [cv]at hk) hO.toK
        . by_cases hAl: ∃t,o.guard=none/\o.op= .alloc t
          . obtain⟨t,hg,ho⟩:=hAl
            obtain⟨dst,op,type,pos,after,guard⟩:=o
            simp only at hg ho
            subst hg;subst ho
            simp only[lL,lF,gz]at h
            split at h
            . rename_i ht
              simp only[dd,aE,J0]at h
              obtain⟨⟨h0,hl⟩,h⟩:=h
              obtain⟨g1,g2⟩:=oz h
              obtain⟨arr,hA⟩:=Zsi (o:=⟨dst, .alloc t,type,pos,after,none⟩) hT rfl ht (lE h0) (bE hl)
              refine⟨[],_,_,st.env,λt=>ow.symm,g1,?_,g2,λt' a' r' lR iF _ jh=>(by cases jh),λt' b' x' r' lR iF _ jh=>(by cases jh),λq' _ Fh=>(by cases Fh),λ_ _ _ _ hf=>(by cases hf),λt' _ hf=>⟨rfl,_,arr,hA,rfl,rfl⟩,λargs dj _ hf=>(by cases hf),λargs dj x' l' _ hf=>(by cases hf)⟩
              unfold nh
              exact Az rfl (Pv λc w a hm R5 ei=>⟨_,rfl,Zpq hT ht (lE h0) (bE hl) st.rows.length c w⟩)
            . exact h.elim
          by_cases ZI: ∃args dj,o.guard=none/\o.op= .call ⟨.builtin .append,args,dj⟩
          . obtain⟨args,dj,hg,ho⟩:=ZI
            obtain⟨dst,op,type,pos,after,guard⟩:=o
            simp only at hg ho
            subst hg;subst ho
            simp only[lL,lF]at h
            split at h
            . rename_i x y t tx oQ ht
              have Jl:args= #[x,y]:=by rw[<-bW (xs:=args),oQ]
              have tT:dj= #[t,tx]:=by rw[<-bW (xs:=dj),ht]
              subst Jl;subst tT
              have h':=xx h
              obtain⟨ks,R',⟨⟨ZJ,Cj⟩,hK⟩,hM,hr⟩:=Zq4 (ty:=type) hT h'
              rw[HF]at hK
              obtain⟨h1,h2⟩:=oz hK
              refine⟨ks,_,_,_,λt=>rfl,h1,?_,h2,λt' a' r' lR iF _ jh=>(by cases jh),λt' b' x' r' lR iF _ jh=>(by cases jh),λq' _ Fh=>(by cases Fh),λ_ _ _ _ hf=>(by cases hf),λt' _ hf=>(by cases hf),λargs dj _ hf r row hr hm=>Cj r row hr hm,λargs dj x' l' _ hf ha he=> ?_⟩
              rotate_left
              . cases hf
                have hx:x= .tmp x':=by
                  have:=congrArg List.head? ha
                  simpa using this
                subst hx
                exact ZJ he
              unfold nh
              refine Bq rfl hM λc w a hm hb hR ei K' Q pQ=> ?_
              obtain⟨v',w',c',ie,hn,jV,hv⟩:=hr c w _ _ hm hb hR (ei x (by simp [Op.operands,Call.operands])) (ei y (by simp [Op.operands,Call.operands]))
              refine FN ?_ (pQ v' w' c' hn jV hv)
              simp only[execOp,resolve,Sem.run_bind,Sem.run_pure,Result.andThen_ok,invoke,builtin]
              have:(#[x,y]:Array Operand).map a.eval= #[a.eval x,a.eval y]:=by simp
              rw[this,ie];rfl
            . exact h.elim
          obtain⟨ks,val,R',iB,h0,h1,h2,h3⟩:=VF hT hG h
          exact⟨ks,val,R',iB,h0,h1,h2,h3,λt a r ii off hg ho ha=>(hL ⟨t,a,r,ii,off,hg,ho,ha⟩).elim,λt b x r ii off hg ho hb=>(hS ⟨t,b,x,r,ii,off,hg,ho,hb⟩).elim,λq hg hq=>(hP ⟨q,hg,hq⟩).elim,λf args dj hg ho lD=>(hC ⟨f,args,dj,hg,ho,lD⟩).elim,λt hg ho=>(hAl ⟨t,hg,ho⟩).elim,λargs dj hg ho=>(ZI ⟨args,dj,hg,ho⟩).elim,λargs dj x l' hg ho ha he=>(ZI ⟨args,dj,hg,ho⟩).elim⟩
theorem P6(h:pf d=true):sL d=true:=by cases d<;>first|rfl|cases h
theorem zx{ks:List Nat}(h:d.gk ks=.ptr r i off):d=.ptr r i off:=by
 cases d with
 |all x=>simp only[D.gk,D.kill,D.ed]at h;cases hb:cv x ks<;>rw[hb]at h<;>cases h
 |own x y z=>simp only[D.gk,D.kill,D.ed]at h;cases hb:cv x ks<;>rw[hb]at h<;>cases h
 |ptr x y z=>simp only[D.gk,D.kill,D.ed]at h;cases hb:cv x ks<;>rw[hb]at h<;>cases h;rfl
 |pa x y z u v q=>simp only[D.gk,D.kill,D.ed]at h;cases hb:cv x ks<;>rw[hb]at h<;>cases h
 |ga x=>simp only[D.gk,D.kill,D.ed]at h;cases hb:cv x ks<;>rw[hb]at h<;>cases h
 |gj f cs=>simp only[D.gk,D.kill,D.ed]at h;cases hb:nB (od cs) ks<;>rw[hb]at h<;>cases h
 |dv ds=>simp[D.gk]at h
 |agg ds=>simp[D.gk,D.kill]at h
 |_=>simp[D.gk,D.kill,D.ed]at h
theorem Jm{i a k:Nat}(h:kM ops i a=true)(hk:i<=k)(ho:ops[k]?=some o):o.dst≠some a:=by
 intro hd
 have hm:o∈ops.toList.drop i:=by
  have h1:(ops.toList.drop i)[k-i]?=some o:=by
   rw[List.getElem?_drop,show i+(k-i)=k by omega];simpa using ho
  exact fL h1
 have:=List.all_eq_true.1 h o hm
 simp[hd]at this
theorem Zqy{f:FuncId}(h:(match Qc G f with|some _=>true|none=>Z8 G f)=false):Qc G f=none/\Z8 G f=false:=by
 cases hg:Qc G f with
 |none=>rw[hg]at h;exact⟨rfl,h⟩
 |some k=>rw[hg]at h;cases h
def Jn(ops:Array Oper)(env:List (Nat×D))(i:Nat)(o:Oper)(q:List Nat):Prop:=
 (∀a∈q,kM ops i a=true/\Hf (look env a)=true)/\∀t,o.dst=some t->kM ops (i+1) t=true/\Hf (look env t)=true
theorem UJ{env:List (Nat×D)}(h:pj op=some q):lJ env op=some q:=by
 unfold lJ;rw[h]
theorem P7{env:List (Nat×D)}(hx:ops[i]?=some x)(hy:ops[j]?=some y)(h:L3 G ops env i j=true):
 (∃t a t' b z r r' ii off lR iF,x.guard=none/\y.guard=none/\x.op=.load t (.tmp a)/\y.op=.store t' (.tmp b) z/\kM ops i a=true/\kM ops j b=true/\look env a=.ptr r ii off/\look env b=.ptr r' lR iF/\r≠r')\/
 (∃q,x.guard=none/\y.guard=none/\lJ env x.op=some q/\(∀a∈q,kM ops i a=true)/\((∃t' b z r' lR iF,y.op=.store t' (.tmp b) z/\kM ops j b=true/\look env b=.ptr r' lR iF)\/∃f args dj,y.op=.call ⟨.value (.func f),args,dj⟩/\(Qc G f=none/\Z8 G f=false)))\/
 (∃q,x.guard=none/\pj x.op=some q/\Jn ops env i x q)\/
 (∃t a r ii off args dj x0 l,x.guard=none/\y.guard=none/\x.op=.load t (.tmp a)/\kM ops i a=true/\look env a=.ptr r ii off/\y.op=.call ⟨.builtin .append,args,dj⟩/\args.toList=.tmp x0::l/\kM ops j x0=true/\Jj (look env x0)=true)\/
 (∃t a r ii off args dj td,x.guard=none/\y.guard=none/\x.op=.load t (.tmp a)/\kM ops i a=true/\look env a=.ptr r ii off/\y.op=.call ⟨.builtin .append,args,dj⟩/\x.dst=some td/\kM ops (i+1) td=true/\pf (look env td)=true):=by
 unfold L3 at h
 simp only[hx,hy]at h
 split at h
 ·rename_i t a t' b z h1 h2 h3 h4
  simp only[aE]at h
  obtain⟨g1,g2,g3⟩:=h
  split at g3
  ·rename_i r ii off r' lR iF e1 e2
   refine .inl ⟨t,a,t',b,z,r,r',ii,off,lR,iF,h1,h2,h3,h4,g1,g2,e1,e2,λe=>?_⟩
   subst e
   simp at g3
  ·rename_i sz es k off r' lR iF e1 e2
   exact .inr (.inl ⟨[a],h1,h2,by rw[h3];simp[lJ,pj,cq,e1,my],λa' ha=>by simp at ha;subst ha;exact g1,.inl ⟨t',b,z,r',lR,iF,h4,g2,e2⟩⟩)
  ·cases g3
 ·rename_i op t' b z h1 h2 h4 _
  split at h
  ·rename_i q hq
   simp only[aE]at h
   obtain⟨g1,g2,g3⟩:=h
   split at g3
   ·rename_i r' lR iF e2
    exact .inr (.inl ⟨q,h1,h2,hq,λa ha=>List.all_eq_true.1 g1 a ha,.inl ⟨t',b,z,r',lR,iF,h4,g2,e2⟩⟩)
   ·cases g3
  ·cases h
 ·rename_i op f dj h1 h2 h4
  split at h
  ·cases h
  ·rename_i HP
   have ZK:=Zqy HP
   split at h
   ·rename_i q hq
    exact .inr (.inl ⟨q,by assumption,by assumption,hq,λa ha=>List.all_eq_true.1 h a ha,.inr ⟨_,_,_,by assumption,ZK⟩⟩)
   ·cases h
 ·rename_i op args dj h1 h2 h4 _
  split at h
  ·rename_i q hq
   simp only[aE]at h
   refine .inr (.inr (.inl ⟨q,by assumption,hq,λa ha=>?_,λt ht=>?_⟩))
   ·have:=List.all_eq_true.1 h.1 a ha
    simpa only[aE]using this
   ·have:=h.2
    simp only[ht,aE]at this
    exact this
  ·have P8:∀{d:D},Hf d=true->∃r ii off,d=.ptr r ii off:=fun{d} k=>by
    cases d<;>first|(cases k;done)|exact⟨_,_,_,rfl⟩
   rcases Bool.or_eq_true_iff.1 h with h|h
   ·unfold CK at h
    split at h
    ·rename_i t a x0 l ZL hl
     simp only[aE]at h
     obtain⟨k1,k2,k3,k4⟩:=h
     obtain⟨r,ii,off,hr⟩:=P8 k3
     exact .inr (.inr (.inr (.inl ⟨t,a,r,ii,off,dj,h1,x0,l,by assumption,by assumption,ZL,k1,hr,by assumption,hl,k2,k4⟩)))
    ·cases h
   ·unfold CL at h
    split at h
    ·rename_i t a td ZL tD
     simp only[aE]at h
     obtain⟨k1,k2,k3,k4⟩:=h
     obtain⟨r,ii,off,hr⟩:=P8 k2
     exact .inr (.inr (.inr (.inr ⟨t,a,r,ii,off,dj,h1,td,by assumption,by assumption,ZL,k1,hr,by assumption,tD,k3,k4⟩)))
    ·cases h
 ·cases h
theorem Zmr(hy:ops[j]?=some y)(h:uE ops j=true):(∃t,y.guard=none/\y.op=.alloc t)/\∀u,y.dst=some u->∀k o',k≠j->ops[k]?=some o'->o'.dst≠some u:=by
 unfold uE at h
 simp only[hy]at h
 split at h
 ·rename_i t h1 h2
  refine⟨⟨t,h1,h2⟩,λu hu k o' hk dx hd=>?_⟩
  simp only[hu]at h
  have bg:=(Array.getElem?_eq_some_iff.1 dx).1
  have:=List.all_eq_true.1 h k (List.mem_range.2 bg)
  simp only[dx,aW,hd,aT]at this
  rcases this with this|this
  ·exact hk (bE this)
  ·simp at this
 ·cases h
theorem Fi{env:List (Nat×D)}(h:P9 G ops env=true)(JJ:i<j)(hx:ops[i]?=some x)(hy:ops[j]?=some y):
 (x.apart ops y=true\/((Region.before ops).getD j 0).testBit i=true)/\((kO G x.op=true/\kO G y.op=true)\/((Region.before ops).getD j 0).testBit i=true\/L3 G ops env i j=true\/((∃t,y.guard=none/\y.op=.alloc t)/\∀u,y.dst=some u->∀k o',k≠j->ops[k]?=some o'->o'.dst≠some u)):=by
 have hj:=(Array.getElem?_eq_some_iff.1 hy).1
 have h1:=List.all_eq_true.1 h j (List.mem_range.2 hj)
 simp only[aE]at h1
 have h2:=List.all_eq_true.1 h1.2 i (List.mem_range.2 JJ)
 unfold wC at h2
 simp only[hx,hy,aE,aT]at h2
 exact⟨h2.1,h2.2.elim (λg=>g.elim .inl (λg=>.inr (.inl g))) (λg=>g.elim (λg=>.inr (.inr (.inl g))) (λg=>.inr (.inr (.inr (Zmr hy g)))))⟩
theorem Zkz{env:List (Nat×D)}(h:P9 G ops env=true)(hy:ops[j]?=some y):∀e∈y.after,Region.binds .any e=true->e.on<j:=by
 have hj:=(Array.getElem?_eq_some_iff.1 hy).1
 have h1:=List.all_eq_true.1 h j (List.mem_range.2 hj)
 simp only[aE,hy]at h1
 intro e he hb
 have:=Array.all_eq_true'.1 h1.1 e he
 simp only[hb,Bool.not_true,Bool.false_or]at this
 exact lE this
theorem zav{env:List (Nat×D)}{ks:List Nat}{val:D}{R':Rows}(hi:ops[i]?=some o)
 (hm:Mem c w) (hb:c.base<=w.heap.size) (hR:∀r,c.R r=R.getD r none) (ei:∀t∈o.looksAt ops,Rep c w (look env t) (a.tmps.getD t undef)) (hG:nh P G M ops o env R ks val R') {K:Act->World->Prop} {Q:Exit->Act->World->Prop}
 (hK:∀v w' c',(∀k,cv k ks=true->M<=k)->jE ks c w c' w'->(∀r,c'.R r=R'.getD r none)->Rep c' w' val v->K (a.put o.dst v) w'):wpOp P ops Q i K a w:=by
 have hx:∀x∈o.op.operands,Rep c w (cq env x) (a.eval x):=λx hx=>by
  cases x with
  |tmp t=>
   refine ei t ?_
   unfold Oper.looksAt
   exact eS _ (List.mem_filterMap.2 ⟨.tmp t,by simpa using hx,rfl⟩)
  |const v=>
   simp only[cq,Act.eval]
   cases hv:FE v with
   |none=>trivial
   |some d=>exact MF hv c w
  |global g=>trivial
  |func f=>exact JP f
 have run:pr P G M o (cq env) R ks val R'->o.mW P a w K Q:=λhX=>hX.toK.2 c w a hm hb hR hx K Q λv w' c' h1 h2 h3=>hK v w' c' hX.toK.1 h1 h2 h3
 have skip:ks=[]->val=.dv []->R'=R->K (a.put o.dst undef) w:=λe0 e1 e2=>by
  subst e0;subst e1;subst e2
  exact hK undef w c (λk hk=>by simp[cv]at hk) (lB.toK ⟨hm,iX.refl _ _,Fr.refl _ _,λb hb=>.inl hb,λr row hr v=>.inl ⟨⟨row,hr⟩,v,rfl⟩⟩) hR (R6 _ _)
 unfold wpOp
 simp only[hi]
 unfold nh at hG
 cases hg:o.guard with
 |none=>
  simp only[hg]at hG
  have hw:Region.wanted o (yielded ops a.tmps)=true:=by simp[Region.wanted,hg]
  rw[if_pos hw]
  exact run hG
 |some jw=>
  obtain⟨j,want⟩:=jw
  simp only[hg]at hG
  obtain⟨g,h2,hG⟩:=hG
  have hr:=ei g (by
   unfold Oper.looksAt
   refine eX _ ?_
   simp only[hg,h2];simp)
  rcases hG with⟨b,h3,h4⟩|⟨h3,e0,e1,e2⟩
  rotate_left
  ·rw[h3]at hr
   rw[if_neg (by rw[R7 (o:=o) hg h2 hr];simp)]
   exact skip e0 e1 e2
  rw[h3]at hr
  have hw:=R8 (o:=o) hg h2 hr
  by_cases e:b=want
  ·rw[if_pos e]at h4
   rw[if_pos (by rw[hw];simpa using e)]
   exact run h4
  ·rw[if_neg e]at h4
   rw[if_neg (by rw[hw];simpa using e)]
   exact skip h4.1 h4.2.1 h4.2.2
structure UK(P:Program)(G:List bc)(N M:Nat)(ops:Array Oper)(s:Nat->St)(ks:Nat->List Nat)(val:Nat->D):Prop extends Chain P G N M ops s ks val where
 mm:∀(i:Nat) (o:Oper),ops[i]?=some o->Ji P G o (s i).env (s i).rows (ks i) (val i) (s (i+1)).rows
theorem Zis{P:Program}{T:iu}(hT:Q4 P T){G:List bc}(hG:jr P G){N M:Nat}{ops:Array Oper}{K:St->Prop}:∀(l:List Oper) (k:Nat) (st:St),ops.toList.drop k=l->lL T G N M ops l st K->
 ∃ (s:Nat->St) (ks:Nat->List Nat) (val:Nat->D),s k=st/\K (s (k+l.length))/\(∀(i:Nat) (o:Oper),k<=i->ops[i]?=some o->nh P G M ops o (s i).env (s i).rows (ks i) (val i) (s (i+1)).rows)/\
  (∀(i:Nat) (o:Oper) (t:Nat),k<=i->ops[i]?=some o->look (s (i+1)).env t=if o.dst=some t then val i else look (rL (ks i) (s i).env) t)/\(∀(i:Nat) (o:Oper) (t:Nat),k<=i->ops[i]?=some o->o.dst=some t->t<N)/\
  (∀(i:Nat) (o:Oper),k<=i->ops[i]?=some o->Ji P G o (s i).env (s i).rows (ks i) (val i) (s (i+1)).rows)
 |[],k,st,hk,h=>by
  have hlen:ops.size<=k:=by
   have:=congrArg List.length hk
   simp at this;omega
  have no:∀(i:Nat) (o:Oper),k<=i->ops[i]?=some o->False:=λi o hi ho=>by
   have:=(Array.getElem?_eq_some_iff.1 ho).1;omega
  exact⟨λ_=>st,λ_=>[],λ_=>.dead,rfl,h,λi o hi ho=>(no i o hi ho).elim,λi o t hi ho=>(no i o hi ho).elim,λi o t hi ho=>(no i o hi ho).elim,λi o hi ho=>(no i o hi ho).elim⟩
 |o ::l,k,st,hk,h=>by
  have bg:k<ops.toList.length:=by
   by_cases bg:k<ops.toList.length
   ·exact bg
   ·rw[List.drop_eq_nil_of_le (by omega)]at hk;cases hk
  rw[List.drop_eq_getElem_cons bg]at hk
  have ho:ops[k]?=some o:=by
   have:=(List.cons.inj hk).1
   rw[<-this]
   simp at bg
   simp[bg]
  obtain⟨kk,v,R',iB,h1,h2,h3,h4,h5⟩:=Zs3 hT hG h
  obtain⟨s,ks,val,g1,g2,g3,g4,g5,g6⟩:=Zis hT hG l (k+1) _ (List.cons.inj hk).2 h4
  refine⟨λi=>if i=k then st else s i,λi=>if i=k then kk else ks i,λi=>if i=k then v else val i,by simp,?_,λi p hi hp=>?_,λi p t hi hp=>?_,λi p t hi hp hd=>?_,λi p hi hp=>?_⟩
  ·simp only[List.length_cons]
   rw[if_neg (by omega),show k+(l.length+1)=k+1+l.length by omega]
   exact g2
  ·by_cases e:i=k
   ·subst e
    rw[ho]at hp;cases hp
    simp only[if_true,show¬i+1=i by omega,if_false,g1]
    exact h3
   ·simp only[if_neg e,if_neg (show¬i+1=k by omega)]
    exact g3 i p (by omega) hp
  ·by_cases e:i=k
   ·subst e
    rw[ho]at hp;cases hp
    simp only[if_true,show¬i+1=i by omega,if_false,g1]
    cases tD:o.dst with
    |none=>simp[rM,h1]
    |some u=>simp only[rM,Ax,Option.some.injEq,h1]
   ·simp only[if_neg e,if_neg (show¬i+1=k by omega)]
    exact g4 i p t (by omega) hp
  ·by_cases e:i=k
   ·subst e
    rw[ho]at hp;cases hp
    exact h2 t hd
   ·exact g5 i p t (by omega) hp hd
  ·by_cases e:i=k
   ·subst e
    rw[ho]at hp;cases hp
    simp only[if_true,show¬i+1=i by omega,if_false,g1]
    exact h5
   ·simp only[if_neg e,if_neg (show¬i+1=k by omega)]
    exact g6 i p (by omega) hp
section
variable {P:Program} {G:List bc} {N M:Nat} {ops:Array Oper} {s:Nat->St} {ks:Nat->List Nat} {val:Nat->D} (hc:UK P G N M ops s ks val)
include hc
theorem DJ{i a r ii off:Nat}(hn:kM ops i a=true)(h:look (s ops.size).env a=.ptr r ii off):∀{k:Nat},i<=k->k<=ops.size->look (s k).env a=.ptr r ii off:=by
 intro k nP hk
 obtain⟨n,PW⟩:∃n,ops.size=k+n:=⟨ops.size-k,by omega⟩
 have:∀n k,i<=k->k+n<=ops.size->look (s (k+n)).env a=.ptr r ii off->look (s k).env a=.ptr r ii off:=by
  intro n
  induction n with
  |zero=>intro k _ _ h;exact h
  |succ n ih=>
   intro k h1 h2 h3
   have ho:ops[k]?=some ops[k]:=aU (by omega)
   have h4:=ih (k+1) (by omega) (by omega) (by rw[show k+1+n=k+(n+1) by omega];exact h3)
   rw[hc.env k _ a ho,if_neg (Jm hn h1 ho),Br]at h4
   exact zx h4
 exact this n k nP (by omega) (by rw[<-PW];exact h)
theorem DK{i a:Nat}(hn:kM ops i a=true)(h:sL (look (s ops.size).env a)=true):∀{k:Nat},i<=k->k<=ops.size->look (s k).env a=look (s ops.size).env a:=by
 intro k nP hk
 obtain⟨n,PW⟩:∃n,ops.size=k+n:=⟨ops.size-k,by omega⟩
 have:∀n k,i<=k->k+n<=ops.size->∀p,sL p=true->look (s (k+n)).env a=p->look (s k).env a=p:=by
  intro n
  induction n with
  |zero=>intro k _ _ p _ h;exact h
  |succ n ih=>
   intro k h1 h2 p hp h3
   have ho:ops[k]?=some ops[k]:=aU (by omega)
   have h4:=ih (k+1) (by omega) (by omega) p hp (by rw[show k+1+n=k+(n+1) by omega];exact h3)
   rw[hc.env k _ a ho,if_neg (Jm hn h1 ho),Br]at h4
   exact Zo0 hp h4
 exact this n k nP (by omega) _ h (by rw[<-PW])
theorem Zpe(h:lJ (s ops.size).env op=some q)(hq:∀a∈q,kM ops i a=true)(h1:i<=k)(h2:k<=ops.size):lJ (s k).env op=some q:=
 Ztc h λa ha hs=>DK hc (hq a ha) hs h1 h2
theorem ZM{dr:Nat->Bool}{c:Nat}{t:Nat}:∀{n:Nat},(∀i o,i<n->ops[c+i]?=some o->o.dst=some t->dr (c+i)=false)->iY ops s val dr c n t=look (s c).env t
 |0,_=>rfl
 |n + 1,h=>by
  simp only[iY]
  rw[if_neg]
  ·exact ZM (λi o hi=>h i o (by omega))
  ·rintro⟨g1,g2⟩
   cases hk:ops[c+n]? with
   |none=>rw[hk]at g2;cases g2
   |some o=>
    rw[hk]at g2
    rw[h n o (by omega) hk g2]at g1;cases g1
theorem Zgr{dr:Nat->Bool}{c d:Nat}{t:Nat}(hq:∀(i:Nat) (o:Oper),c<=i->i<d->ops[i]?=some o->kO G o.op=true)(hd:d<=ops.size):∀{n:Nat},c+n<=d->(∀i o,i<n->ops[c+i]?=some o->o.dst=some t->dr (c+i)=true)->iY ops s val dr c n t=look (s (c+n)).env t
 |0,_,_=>rfl
 |n +1,hn,hl=>by
  have ho:ops[c+n]?=some ops[c+n]:=aU (by omega)
  simp only[iY,ho,aW]
  rw[show c+(n+1)=(c+n)+1 by omega,hc.toChain.DQ ho (hq _ _ (by omega) (by omega) ho) t]
  by_cases o7:ops[c+n].dst=some t
  ·rw[if_pos ⟨hl n _ (by omega) ho o7,o7⟩,if_pos o7]
  ·rw[if_neg (λg=>o7 g.2),if_neg o7]
   exact Zgr hq hd (by omega) (λi o hi=>hl i o (by omega))
theorem Zbo{dr:Nat->Bool}{c d:Nat}(hq:∀(i:Nat) (o:Oper),c<=i->i<d->ops[i]?=some o->kO G o.op=true)(hd:d<=ops.size):∀{n:Nat},c+n<=d->(∀i,i<n->dr (c+i)=true\/(s (c+i+1)).rows=(s (c+i)).rows)->∀r,ki s dr c n r=(s (c+n)).rows.getD r none
 |0,_,_,r=>rfl
 |n + 1,hn,hl,r=>by
  simp only[ki]
  rw[show c+(n+1)=c+n+1 by omega]
  have hlen:=JN hc.toChain hq hd (show c<=c+n by omega) (show c+n<=c+n+1 by omega) (by omega)
  have ih:=Zbo hq hd (n:=n) (by omega) (λi hi=>hl i (by omega)) r
  rcases hl n (by omega)with h|h
  ·simp only[h,true_and]
   split
   ·rfl
   ·rw[ih]
    by_cases h2:r<(s (c+n)).rows.length
    ·exact(JO hc.toChain hq hd (by omega) (by omega) (by omega) h2).symm
    ·simp only[aV]
     rw[aJ (by omega),aJ (by omega)]
  ·rw[if_neg (by rw[h];omega),ih,h]
theorem Zhp{dr:Nat->Bool}{c d:Nat}(hq:∀(i:Nat) (o:Oper),c<=i->i<d->ops[i]?=some o->kO G o.op=true)(hd:d<=ops.size){r:Nat}(hr:r<(s c).rows.length):∀{n:Nat},c+n<=d->ki s dr c n r=(s c).rows.getD r none
 |0,_=>rfl
 |n+1,hn=>by
  simp only[ki]
  have hlen:=JN hc.toChain hq hd (show c<=c by omega) (show c<=c+n by omega) (by omega)
  rw[if_neg (by omega)]
  exact Zhp hq hd hr (by omega)
end
structure sM(w0:World)(cx:Ctx)(w:World)(b:Nat)(arr:Array Value)(ty:TypeId):Prop where
 jv:w0.heap.size<=b
 lt:b<w.heap.size
 here:w.heap[b]?=some (.cells arr ty (0,0))
 fe:¬cx.I b
 row:∀r row,cx.R r=some row->¬cx.V r->cx.ρ r≠b
theorem sM.du{ks:List Nat}{ty:TypeId}(h:sM w0 c w b arr ty)(n:jE ks c w c' w'):sM w0 c' w' b arr ty:=by
 refine⟨h.jv,bM h.lt n.fr.size,(n.fr.heap b h.lt fun⟨r,x,h1,h2,h3⟩=>h.row r x h1 h2 h3).trans h.here,λhb=>?_,λr row hr hv e=>?_⟩
 ·rcases n.fe b hb with g|⟨s,x,_,g1,g2,g3⟩|g
  ·exact h.fe g
  ·exact h.row s x g1 g2 g3
  ·have:=h.lt;omega
 ·rcases n.nT r row hr hv with⟨⟨x,g1⟩,g2,g3⟩|⟨s,x,_,g1,g2,g3⟩|g
  ·exact h.row r x g1 g2 (by rw[<-g3];exact e)
  ·exact h.row s x g1 g2 (by rw[<-g3];exact e)
  ·have:=h.lt;omega
theorem yx(h:o.dst≠some u):(a.put o.dst v).tmps.getD u undef=a.tmps.getD u undef:=by
 cases ho:o.dst with
 |none=>simp[Act.put]
 |some x=>
  have gm:x≠u:=λe=>h (by rw[ho,e])
  simp[Act.put,aZ gm]
theorem xV{dst:Option Tmp}(h:dst=some u)(bg:u<a.tmps.size):(a.put dst v).tmps.getD u undef=v:=by
 subst h
 simp[Act.put,aY,bg]
def L4(P:Program)(ops:Array Oper)(s:Nat->St)(val:Nat->D)(w0:World)(cx:Ctx)(w:World)(a:Act)(i b:Nat):Prop:=
 ∃ o t row arr,ops[i]?=some o/\o.guard=none/\o.op=.alloc t/\UI P o row arr/\val i=.ptr (s i).rows.length 0 0/\(s (i+1)).rows=(s i).rows++[some row]/\sM w0 cx w b arr row.ty/\
  (∀u,o.dst=some u->a.tmps.getD u undef=.pointer (some ⟨b,0,none⟩))/\∀u,o.dst=some u->∀k o',k≠i->ops[k]?=some o'->o'.dst≠some u
theorem L4.du{ks:List Nat}(h:L4 P ops s val w0 c w a k b)(n:jE ks c w c' w')(nP:i≠k)(ho:ops[i]?=some o):L4 P ops s val w0 c' w' (a.put o.dst v) k b:=by
 obtain⟨o',t,row,arr,g1,g2,g3,g4,g5,g6,g7,g8,g9⟩:=h
 exact⟨o',t,row,arr,g1,g2,g3,g4,g5,g6,g7.du n,λu hu=>by rw[yx (g9 u hu i o nP ho)];exact g8 u hu,g9⟩
theorem ZN(hm:Mem c w)(o:Obj):iX c w c (w.alloc o):=
 ⟨rfl,aX _,λb hb=>⟨hb,Q8 w o b (hm.fe b hb).1⟩,λr x hr=>⟨x,hr,rfl,rfl,rfl,rfl,rfl,Iff.rfl,λnv arr ha=>⟨arr,by rw[Q8 w o _ (hm.lt hr nv)];exact ha,rfl⟩⟩⟩
theorem ZO(w:World)(o:Obj):(w.alloc o).heap.size=w.heap.size+1:=by show(w.heap.push o).size=_;simp
theorem Zsx(hm:Mem c w)(o:Obj):Mem c (w.alloc o):=
 ⟨λr row hr=>sW (ZN hm o) rfl Iff.rfl (λnv=>Q8 w o _ (hm.lt hr nv)) (hm.row r row hr),hm.inj,(λb hb=>⟨by have:=(hm.fe b hb).1;rw[ZO];omega,(hm.fe b hb).2⟩),by have:=hm.top;rw[ZO];omega,hm.jQ.mono (ZN hm o).I⟩
theorem Zl8(hk:c.R k=none)(row:Row)(b:Nat):iX c w (c.add k row b) w:=by
 refine⟨rfl,aX _,λb hb=>⟨hb,rfl⟩,λr x hr=>?_⟩
 have gm:r≠k:=λe=>by rw[e,hk]at hr;cases hr
 exact⟨x,by simp[Ctx.add,gm,hr],rfl,rfl,rfl,rfl,by simp[Ctx.add,gm],by simp[Ctx.add,gm],λnv arr ha=>⟨arr,ha,rfl⟩⟩
theorem xav(hm:Mem c w)(hk:c.R k=none)(hA:UI P o row arr)(hl:sM w0 c w b arr row.ty):Mem (c.add k row b) w:=by
 have hg:=Zl8 (w:=w) hk row b
 have jv:∀r x,r≠k->(c.add k row b).R r=some x->c.R r=some x/\(c.add k row b).ρ r=c.ρ r/\((c.add k row b).V r↔c.V r):=λr x e h=>⟨by simpa[Ctx.add,e]using h,by simp[Ctx.add,e],by simp[Ctx.add,e]⟩
 refine⟨λr x hr=>?_,λr s x y hr hs v1 v2 he=>?_,λb' hb=>⟨(hm.fe b' hb).1,λr x hr v=>?_⟩,hm.top,hm.jQ⟩
 ·by_cases e:r=k
  ·subst e
   simp only[Ctx.add,if_true,Option.some.injEq]at hr
   subst hr
   obtain⟨e,h1,h2,h3,h4⟩:=hA.cells
   refine .inr ⟨by simp[Ctx.add],arr,by simp only[Ctx.add,if_true];exact hl.here,hA.sz,?_⟩
   rw[if_pos hA.box]
   exact⟨e,h1,h2,h3,h4 _ _⟩
  ·obtain⟨g1,g2,g3⟩:=jv r x e hr
   exact sW hg g2 g3 (λ_=>rfl) (hm.row r x g1)
 ·by_cases e1:r=k<;>by_cases e2:s=k
  ·rw[e1,e2]
  ·obtain⟨g1,g2,g3⟩:=jv s y e2 hs
   exfalso
   refine hl.row s y g1 (λe=>v2 (g3.2 e)) ?_
   rw[<-g2,<-he,e1];simp[Ctx.add]
  ·obtain⟨g1,g2,g3⟩:=jv r x e1 hr
   exfalso
   refine hl.row r x g1 (λe=>v1 (g3.2 e)) ?_
   rw[<-g2,he,e2];simp[Ctx.add]
  ·obtain⟨g1,g2,g3⟩:=jv r x e1 hr
   obtain⟨k1,k2,k3⟩:=jv s y e2 hs
   exact hm.inj r s x y g1 k1 (λe=>v1 (g3.2 e)) (λe=>v2 (k3.2 e)) (by rw[<-g2,<-k2];exact he)
 ·by_cases e:r=k
  ·subst e
   simp only[Ctx.add,if_true]
   intro e;subst e
   exact hl.fe hb
  ·obtain⟨g1,g2,g3⟩:=jv r x e hr
   rw[g2];exact(hm.fe b' hb).2 r x g1 (λe=>v (g3.2 e))
def QA(ops:Array Oper)(env:List (Nat×D))(i:Nat)(o:Oper):Prop:=∃td,o.dst=some td/\kM ops (i+1) td=true/\pf (look env td)=true
def QB(ops:Array Oper)(s:Nat->St)(ks:Nat->List Nat)(i c:Nat):Prop:=
 (∃o t a r ii off row ao,ops[i]?=some o/\o.guard=none/\o.op=.load t (.tmp a)/\kM ops i a=true/\look (s ops.size).env a=.ptr r ii off/\(s i).rows.getD r none=some row/\(s c).rows.getD r none=some ao/\((ao=row/\∀k,i<k->k<c->ks k=[])\/(QA ops (s ops.size).env i o/\∃L:List (List Nat),ao=L.foldl (λr k=>Row.kill k r) row/\∀kk∈L,∃j,i<j/\j<c/\kk=ks j)))\/
 (∃o q,ops[i]?=some o/\o.guard=none/\lJ (s ops.size).env o.op=some q/\(∀a∈q,kM ops i a=true)/\((∀k,i<k->k<c->ks k=[])\/Jn ops (s ops.size).env i o q))
structure Inv2(P:Program)(G:List bc)(N M:Nat)(ops:Array Oper)(s:Nat->St)(ks:Nat->List Nat)(val:Nat->D)(c0:Ctx)(w0:World)(dr:Nat->Bool)(a:Act)(w:World)(c d:Nat):Prop where
 cd:c<=d
 dn:d<=ops.size
 pre:∀i,i<c->dr i=true\/QB ops s ks i c
 quiet:∀(i:Nat) (o:Oper),c<=i->i<d->ops[i]?=some o->kO G o.op=true
 wr:∀(o:Oper),ops[d]?=some o->kO G o.op=false
 closed:∀j,dr j=true->∀(o:Oper),ops[j]?=some o->∀e∈o.after,Region.binds .any e=true->dr e.on=true
 size:N<=a.tmps.size
 defers:lN w0.heap.size w a.defers
 fv:c0.base<=w0.heap.size
 gp:∀r row,c0.R r=some row->r<M
 ctx:∃(cx:Ctx) (B:Nat->Nat),Mem cx w/\(∀r,cx.R r=ki s dr c (d-c) r)/\(∀t,(∀k o,k<c->dr k=false->ops[k]?=some o->o.dst≠some t)->(∀k o,d<=k->dr k=true->ops[k]?=some o->o.dst≠some t)->Rep cx w (iY ops s val dr c (d-c) t) (a.tmps.getD t undef))/\wM c0 w0 cx w/\
  (∀i,d<=i->dr i=true->L4 P ops s val w0 cx w a i (B i))/\(∀i j,d<=i->d<=j->dr i=true->dr j=true->B i=B j->i=j)
theorem UL{t:Nat}(hs:N<=a.tmps.size)(hd:∀u,o.dst=some u->u<N)(h1:o.dst=some t->Rep c' w' d v)(h2:o.dst≠some t->Rep c' w' d (a.tmps.getD t undef)):Rep c' w' d ((a.put o.dst v).tmps.getD t undef):=by
 cases ho:o.dst with
 |none=>simpa[Act.put]using h2 (by rw[ho];simp)
 |some u=>
  by_cases e:u=t
  ·subst e
   have hu:u<a.tmps.size:=bM (hd u ho) hs
   simpa[Act.put,aY,hu]using h1 ho
  ·have:=h2 (by rw[ho];intro h;exact e (Option.some.inj h))
   simpa[Act.put,aZ e]using this
theorem QC{ks:Nat->List Nat}(hc:UK P G N M ops s ks val){c d:Nat}
 (hq:∀(i:Nat) (o:Oper),c<=i->i<d->ops[i]?=some o->kO G o.op=true) (hd:d<=ops.size)
 (h:∃(cx:Ctx) (B:Nat->Nat),Mem cx w/\(∀r,cx.R r=(s c).rows.getD r none)/\(∀t,(∀k o,k<c->dr k=false->ops[k]?=some o->o.dst≠some t)->(∀k o,c<=k->dr k=true->ops[k]?=some o->o.dst≠some t)->Rep cx w (look (s c).env t) (a.tmps.getD t undef))/\wM c0 w0 cx w/\
  (∀i,c<=i->dr i=true->L4 P ops s val w0 cx w a i (B i))/\(∀i j,c<=i->c<=j->dr i=true->dr j=true->B i=B j->i=j)):
 ∀ n,c+n<=d->∃(cx:Ctx) (B:Nat->Nat),Mem cx w/\(∀r,cx.R r=ki s dr c n r)/\(∀t,(∀k o,k<c->dr k=false->ops[k]?=some o->o.dst≠some t)->(∀k o,c+n<=k->dr k=true->ops[k]?=some o->o.dst≠some t)->Rep cx w (iY ops s val dr c n t) (a.tmps.getD t undef))/\wM c0 w0 cx w/\
  (∀i,c+n<=i->dr i=true->L4 P ops s val w0 cx w a i (B i))/\(∀i j,c+n<=i->c+n<=j->dr i=true->dr j=true->B i=B j->i=j):=by
 have hlen:∀k l,c<=k->k<=l->l<=d->(s k).rows.length<=(s l).rows.length:=λk l h1 h2 h3=>JN hc.toChain hq hd h1 h2 h3
 have QD:∀n,c+n<=d->∀r,(s (c+n)).rows.length<=r->ki s dr c n r=none:=by
  intro n
  induction n with
  |zero=>intro _ r hr;simp only[ki];simp only[aB]at hr;rw[aV,aJ hr];rfl
  |succ n ih=>
   intro hn r hr
   simp only[ki]
   have:=hlen (c+n) (c+n+1) (by omega) (by omega) (by omega)
   rw[show c+(n+1)=c+n+1 by omega]at hr
   rw[if_neg (by omega)]
   exact ih (by omega) r (by omega)
 intro n
 induction n with
 |zero=>intro _;simpa only[ki,iY,aB]using h
 |succ n ih=>
  intro hn
  obtain⟨cx,B,hm,hR,hE,nO,nC,oj⟩:=ih (by omega)
  cases hl:dr (c+n)with
  |false=>
   refine⟨cx,B,hm,λr=>?_,λt ht he=>?_,nO,λi hi GJ=>nC i (by omega) GJ,λi j hi hj=>oj i j (by omega) (by omega)⟩
   ·simp only[ki,hl,aA,false_and,if_false];exact hR r
   ·simp only[iY,hl,aA,false_and,if_false]
    refine hE t ht λk o hk ot=>he k o ?_ ot
    by_cases e:k=c+n
    ·rw[e,hl]at ot;cases ot
    ·omega
  |true=>
   obtain⟨o,ty,row,arr,g1,g2,g3,g4,g5,g6,g7,g8,g9⟩:=nC (c+n) (aX _) hl
   have hk:cx.R (s (c+n)).rows.length=none:=by rw[hR];exact QD n (by omega) _ (aX _)
   have hg:=Zl8 (w:=w) hk row (B (c+n))
   refine⟨cx.add (s (c+n)).rows.length row (B (c+n)),B,xav hm hk g4 g7,λr=>?_,λt ht he=>?_,⟨nO.cz.trans hg,nO.fr,nO.fe,λr x hr hv=>?_,nO.xb⟩,λi hi GJ=>?_,λi j hi hj=>oj i j (by omega) (by omega)⟩
   ·simp only[ki,hl,true_and,g6,lA,List.length_singleton]
    by_cases e:r=(s (c+n)).rows.length
    ·subst e
     rw[if_pos ⟨aX _,Nat.lt_succ_self _⟩]
     simp[Ctx.add,aV]
    ·rw[if_neg (by omega)]
     simp only[Ctx.add,if_neg e];exact hR r
   ·simp only[iY,hl,true_and,g1,aW]
    split
    ·rename_i tD
     rw[g8 t tD,g5]
     obtain⟨e,q1,_⟩:=g4.cells
     exact⟨row,(Ctx.iV _ _ _ _).1,by simp[Ctx.add],by rw[q1];simp[ai.l],by simp[(Ctx.iV _ _ _ _).2]⟩
    ·rename_i tD
     refine Qb hg (hE t ht λk o' uN ot dx=>?_)
     by_cases e:k=c+n
     ·subst e;rw[g1]at dx;cases dx;exact tD
     ·exact he k o' (by omega) ot dx
   ·by_cases e:r=(s (c+n)).rows.length
    ·right;right
     rw[e];simp only[Ctx.add,if_true];exact g7.jv
    ·have pw:cx.R r=some x:=by simpa[Ctx.add,e]using hr
     have DO:¬cx.V r:=by simpa[Ctx.add,e]using hv
     have:=nO.nT r x pw DO
     simpa only[Ctx.add,if_neg e]using this
   ·obtain⟨o',t',ao,iE,f1,f2,f3,f4,f5,f6,f7,f8,f9⟩:=nC i (by omega) GJ
    refine⟨o',t',ao,iE,f1,f2,f3,f4,f5,f6,⟨f7.jv,f7.lt,f7.here,f7.fe,λr x hr hv e'=>?_⟩,f8,f9⟩
    by_cases e:r=(s (c+n)).rows.length
    ·rw[e]at e'
     simp only[Ctx.add,if_true]at e'
     have:=oj (c+n) i (aX _) (by omega) hl GJ e'
     omega
    ·exact f7.row r x (by simpa[Ctx.add,e]using hr) (by simpa[Ctx.add,e]using hv) (by simpa only[Ctx.add,if_neg e]using e')
section
variable {P:Program} {G:List bc} {N M:Nat} {ops:Array Oper} {s:Nat->St} {ks:Nat->List Nat} {val:Nat->D} (hc:UK P G N M ops s ks val) (lM:P9 G ops (s ops.size).env=true)
include hc lM
theorem qy {c0 :Ctx}{dr fy:Nat->Bool}{c d i:Nat}(hI:Inv2 P G N M ops s ks val c0 w0 dr a w c d)(ho:ops[i]? =some o)(h0:dr i=false)(h1:fy i=true)(h2: ∀k,k≠i->fy k=dr k)
    (MC: ∀e∈o.after,Region.binds .any e=true->dr e.on=true) {K:Act->World->Prop} {Q:Exit->Act->World->Prop} (hK: ∀a' w' c' d',Inv2 P G N M ops s ks val c0 w0 fy a' w' c' d'->K a' w'):wpOp P ops Q i K a w:=by
  have bg:=(Array.getElem?_eq_some_iff.1 ho).1
  have pO: ∀k,((Region.before ops).getD i 0).testBit k=true->dr k=true:=λk hk=>
    RW (au:=λk=>dr k=true) hI.closed (λo' jh=>by rw[ho]at jh;cases jh;exact MC) hk
  have nN: ∀j k,dr j=true->((Region.before ops).getD j 0).testBit k=true->dr k=true:=λj k hj hk=>
    RW (au:=λk=>dr k=true) hI.closed (hI.closed j hj) hk
  have tE: ∀j,fy j=true-> ∀(o:Oper),ops[j]? =some o-> ∀e∈o.after,Region.binds .any e=true->fy e.on=true:=by
    intro j hj o' jh e he hb
    have gm:dr e.on=true:=by
      by_cases e':j=i
      . subst e';rw[ho]at jh;cases jh;exact MC e he hb
      . rw[h2 j e']at hj;exact hI.closed j hj o' jh e he hb
    rw[h2 e.on (λe'=>by rw[e',h0]at gm;cases gm)]
    exact gm
  have Dc: ∀{x:Oper} {t:TypeId} {y:Operand},x.op= .load t y->kO G x.op=true:=λh=>by rw[h];rfl
  have hpu: ∀{x:Oper} {env:List (Nat×D)} {q:List Nat},lJ env x.op=some q->kO G x.op=true:=λh=>by
    unfold kO;rw[(Z5d (G:=G) h).1];rfl
  have GH: ∀{x:Oper} {t:TypeId},x.op= .alloc t->kO G x.op=true:=λh=>by rw[h];rfl
  obtain⟨cx,B,hm,hR,hE,nO,nC,oj⟩:=hI.ctx
  have EO:dr d=false:=by
    cases hl:dr d with
    |false=>rfl
    | true=>
      obtain⟨o',t,_,_,g1,_,g3,_⟩:=nC d (aX _) hl
      have:=hI.wr _ g1
      rw[GH g3]at this;cases this
  have hid:i<=d\/(d<i/\(∃t,o.guard=none/\o.op= .alloc t)/\ ∀u,o.dst=some u-> ∀k o',k≠i->ops[k]? =some o'->o'.dst≠some u):=by
    by_cases h:i<=d
    . exact .inl h
    . right
      have Bg:ops[d]? =some ops[d]:=aU (by omega)
      have:=(Fi lM (show d<i by omega) Bg ho).2
      rcases this with⟨hq,_⟩|hb|hb|hb
      . rw[hI.wr _ Bg]at hq;cases hq
      . have:=pO d hb
        rw[EO]at this;cases this
      . rcases P7 Bg ho hb with⟨t,b,t',b',z,r,r',ii,off,lR,iF,g1,g2,g3,_⟩|⟨q,g1,g2,g3,_⟩|⟨q,g1,g3,_⟩|⟨_,_,_,_,_,_,_,_,_,g1,g2,g3,_⟩|⟨_,_,_,_,_,_,_,_,g1,g2,g3,_⟩
        . have:=Dc g3
          rw[hI.wr _ Bg]at this;cases this
        . have:=hpu g3
          rw[hI.wr _ Bg]at this;cases this
        . have:=hpu (UJ (env:=[]) g3)
          rw[hI.wr _ Bg]at this;cases this
        . have:=Dc g3
          rw[hI.wr _ Bg]at this;cases this
        . have:=Dc g3
          rw[hI.wr _ Bg]at this;cases this
      . exact⟨by omega,hb⟩
  have VQ:=hI.cd
  have Hy:=hI.dn
  have jc:cx.base<=w.heap.size:=by rw[nO.cz.base];exact Nat.le_trans hI.fv nO.fr.size
  have seen: ∀k o' t,k<i->ops[k]? =some o'->o'.dst=some t->t∈o.looksAt ops->dr k=true:=by
    intro k o' t hk jh hd ht
    rcases(Fi lM hk jh ho).1 with tF|hb
    . exact((FD tF).2.1 hd ht).elim
    . exact pO _ hb
  have CM: ∀k o' t,d<=k->dr k=true->ops[k]? =some o'->t∈o.looksAt ops->i<=d->o'.dst≠some t:=by
    intro k o' t hk hl jh ht hid hd
    have nP:i<k:=by
      by_cases e:k=i
      . rw[e,h0]at hl;cases hl
      . omega
    rcases(Fi lM nP ho jh).1 with tF|hb
    . exact(FD tF).2.2 hd ht
    . have:=nN _ _ hl hb
      rw[h0]at this;cases this
  rcases hid with hid|⟨hdi,⟨t0,ZP,ho0⟩,JS⟩
  rotate_left
  ·
    obtain⟨hks,row,arr,hA,hv,db⟩:=(hc.mm i o ho).al t0 ZP ho0
    unfold wpOp
    simp only[ho]
    have hw:Region.wanted o (yielded ops a.tmps)=true:=by simp [Region.wanted,ZP]
    rw[if_pos hw]
    refine FN (hA.run a.eval w) ?_
    have hmn:=Zsx hm (.cells arr row.ty)
    have uW:=ZN hm (.cells arr row.ty)
    have hn:jE [] cx w cx (w.alloc (.cells arr row.ty)):=lB.toK ⟨hmn,uW,Fr.alloc _ w _,λb hb=> .inl hb,λr row hr v=> .inl ⟨⟨row,hr⟩,v,rfl⟩⟩
    refine hK _ _ c d ⟨hI.cd,hI.dn,λk hk=>by rw[h2 k (by omega)];exact hI.pre k hk,hI.quiet,hI.wr,tE,?_,?_,hI.fv,hI.gp,cx,λk=>if k=i then w.heap.size else B k,hmn,λr=> ?_,λt ht he=> ?_,nO.step (ks:=[]) (λk hk=>by simp [cv]at hk) hI.gp hn,λk hdk hl=> ?_,λk j hk hj ot Hg e=> ?_⟩
    . cases hd:o.dst<;>simp [Act.put]<;>exact hI.size
    . first|exact lN.put (hI.defers.step hm hn.fr)|exact lN.put (hI.defers.step hm hn.toW.fr)
    . rw[hR,R4 (λk hk=>h2 _ (by omega))]
    . rw[R3 (λk hk=>h2 _ (by omega))]
      refine UL hI.size (λu=>hc.dst i o u ho) (λhd=>(he i o (by omega) h1 ho hd).elim) (λhd=> ?_)
      exact Qb uW (hE t (λk o' hk hl dx=>ht k o' hk (by rw[h2 k (by omega)];exact hl) dx) (λk o' hk hl dx=>he k o' hk (by rw[h2 k (λe'=>by rw[e',h0]at hl;cases hl)];exact hl) dx))
    . by_cases e:k=i
      . subst e
        simp only[if_true]
        exact⟨o,t0,row,arr,ho,ZP,ho0,hA,hv,db,⟨nO.fr.size,by rw[ZO];omega,Uf w _,λhb=>by have:=(hm.fe _ hb).1;omega,λr ao hr DO e=>by have:=hm.lt hr DO;omega⟩,λu hu=>xV hu (bM (hc.dst k o u ho hu) hI.size),JS⟩
      . simp only[if_neg e]
        rw[h2 k e]at hl
        exact(nC k hdk hl).du hn (Ne.symm e) ho
    . have key: ∀k,d<=k->fy k=true->k≠i->B k<w.heap.size:=λk hk ot e=>by
        rw[h2 k e]at ot
        obtain⟨_,_,_,_,_,_,_,_,_,_,g7,_⟩:=nC k hk ot
        exact g7.lt
      by_cases e1:k=i<;>by_cases e2:j=i
      . rw[e1,e2]
      . simp only[if_pos e1,if_neg e2]at e
        have:=key j hj Hg e2;omega
      . simp only[if_neg e1,if_pos e2]at e
        have:=key k hk ot e1;omega
      . simp only[if_neg e1,if_neg e2]at e
        exact oj k j hk hj (by rw[<-h2 k e1];exact ot) (by rw[<-h2 j e2];exact Hg) e
  by_cases px:c<=i
  . by_cases e:i=d
    ·
      subst e
      have iJ: ∀k o',c<=k->k<i->ops[k]? =some o'->dr k=true\/L3 G ops (s ops.size).env k i=true:=λk o' mV pP dx=>by
        rcases(Fi lM pP dx ho).2 with⟨_,hq⟩|hb|hb|⟨⟨t4,_,g4⟩,_⟩
        . rw[hI.wr _ ho]at hq;cases hq
        . exact .inl (pO _ hb)
        . exact .inr hb
        . have:=hI.wr _ ho
          rw[GH g4]at this;cases this
      have hnr: ∀k o',c<=k->k<i->ops[k]? =some o'->L3 G ops (s ops.size).env k i=true->(s (k+1)).rows=(s k).rows:=λk o' mV pP dx hb=>by
        rcases P7 dx ho hb with⟨t,b,t',b',z,r,r',ii,off,lR,iF,g1,g2,g3,g4,g5,g6,g7,g8,g9⟩|⟨q,g1,g2,g3,g4,_⟩|⟨q,g1,g3,_⟩|⟨t,b,r,ii,off,_,_,_,_,g1,g2,g3,g5,g7,_⟩|⟨t,b,r,ii,off,_,_,_,g1,g2,g3,g5,g7,_⟩
        . exact((hc.mm k o' dx).ld t b r ii off g1 g3 (DJ hc g5 g7 (aX _) (by omega))).2.1
        . exact((hc.mm k o' dx).pu q g1 (Zpe hc g3 g4 (aX _) (by omega))).2.1
        . exact((hc.mm k o' dx).pu q g1 (UJ g3)).2.1
        . exact((hc.mm k o' dx).ld t b r ii off g1 g3 (DJ hc g5 g7 (aX _) (by omega))).2.1
        . exact((hc.mm k o' dx).ld t b r ii off g1 g3 (DJ hc g5 g7 (aX _) (by omega))).2.1
      have db: ∀r,cx.R r=(s i).rows.getD r none:=λr=>by
        rw[hR,Zbo hc hI.quiet Hy (by omega) (λk hk=>by
          have dx:ops[c+k]? =some ops[c+k]:=aU (by omega)
          rcases iJ (c+k) _ (by omega) (by omega) dx with h|h
          . exact .inl h
          . exact .inr (hnr (c+k) _ (by omega) (by omega) dx h)),show c+(i-c)=i by omega]
      have sK: ∀t,(∀k o',k<i->dr k=false->ops[k]? =some o'->o'.dst≠some t)->(∀k o',i<=k->dr k=true->ops[k]? =some o'->o'.dst≠some t)->Rep cx w (look (s i).env t) (a.tmps.getD t undef):=λt ht he=>by
        have:=hE t (λk o' hk=>ht k o' (by omega)) he
        rwa [Zgr hc hI.quiet Hy (by omega) (λk o' hk dx hd=>by
          cases hl:dr (c+k) with
          |true=>rfl
          |false=>exact(ht _ _ (by omega) hl dx hd).elim),show c+(i-c)=i by omega]at this
      refine zav (M:=M) ho hm jc db (λt ht=>sK t (λk o' hk hl dx hd=>by rw[seen k o' t hk dx hd ht]at hl;cases hl) (λk o' hk hl dx=>CM k o' t hk hl dx ht (aX _))) (hc.op i o ho) λv w' c' hM hn jV hv=> ?_
      obtain⟨d',g1,g2,g3,g4⟩:=MB G ops _ (i+1) rfl (by omega)
      have du: ∀k o' t b r ii off row,k<i->ops[k]? =some o'->dr k=false->o'.guard=none->o'.op= .load t (.tmp b)->kM ops k b=true->look (s ops.size).env b= .ptr r ii off->(s i).rows.getD r none=some row->(ks i=[]/\(s (i+1)).rows.getD r none=some row)\/(QA ops (s ops.size).env k o'/\(s (i+1)).rows.getD r none=some (row.kill (ks i))):=by
        intro k o' t b r ii off row hk dx hl q1 q2 q3 q4 q5
        rcases(Fi lM hk dx ho).2 with⟨_,hq⟩|hb|hb|⟨⟨t4,_,g4⟩,_⟩
        rotate_right
        . have:=hI.wr _ ho
          rw[GH g4]at this;cases this
        . rw[hI.wr _ ho]at hq;cases hq
        . rw[pO _ hb]at hl;cases hl
        . rcases P7 dx ho hb with⟨t1,b1,t',b',z,r1,r',QE,CN,lR,iF,p1,p2,p3,p4,p5,p6,p7,p8,p9⟩|⟨q,p1,p2,p3,_⟩|⟨q,p1,p3,_⟩|⟨t1,b1,r1,QE,CN,args,dj,x0,l0,p1,p2,p3,p4,p5,p6,p7,p8,p9⟩|⟨t1,b1,r1,QE,CN,args,dj,td,p1,p2,p3,p4,p5,p6,p7,p8,p9⟩
          . rw[q2]at p3;cases p3
            rw[q4]at p7;cases p7
            obtain⟨f1,f2⟩:=(hc.mm i o ho).st t' b' z r' lR iF p2 p4 (DJ hc p6 p8 (by omega) (by omega))
            exact .inl ⟨f1,by rw[f2 r p9];exact q5⟩
          . rw[q2]at p3;simp [lJ,pj,cq,q4]at p3
          . rw[q2]at p3;cases p3
          . obtain⟨f1,f2⟩:=(hc.mm i o ho).ap args dj x0 l0 p2 p6 p7 (by rw[DK hc p8 (Zfv p9) (by omega) (by omega)];exact p9)
            exact .inl ⟨f1,f2 r row q5⟩
          . refine .inr ⟨⟨td,p7,p8,p9⟩,(hc.mm i o ho).ap2 args dj p2 p6 r row q5 ?_⟩
            have e1:=DJ hc q3 q4 (show k<=i by omega) (by omega)
            have e2:=DJ hc q3 q4 (show k<=i+1 by omega) (by omega)
            rw[hc.env i o b ho,if_neg (Jm q3 (by omega) ho),Br,e1]at e2
            cases hb:cv r (ks i) with
            |false=>rfl
            |true=>simp [D.gk,D.kill,D.ed,hb]at e2
      have Hh: ∀k o' q,k<i->ops[k]? =some o'->dr k=false->lJ (s ops.size).env o'.op=some q->ks i=[]\/Jn ops (s ops.size).env k o' q:=by
        intro k o' q hk dx hl hq
        rcases(Fi lM hk dx ho).2 with⟨_,Fh⟩|hb|hb|⟨⟨t4,_,g4⟩,_⟩
        rotate_right
        . have:=hI.wr _ ho
          rw[GH g4]at this;cases this
        . rw[hI.wr _ ho]at Fh;cases Fh
        . rw[pO _ hb]at hl;cases hl
        . rcases P7 dx ho hb with⟨t1,b1,t',b',z,r1,r',QE,CN,lR,iF,p1,p2,p3,p4,p5,p6,p7,p8⟩|⟨q,p1,p2,p3,p4,p5⟩|⟨q',p1,p3,p4⟩|⟨t1,b1,r1,QE,CN,args,dj,x0,l0,p1,p2,p3,p4,p5,_⟩|⟨t1,b1,r1,QE,CN,args,dj,td,p1,p2,p3,p4,p5,_⟩
          rotate_right
          . rw[p3]at hq;simp [lJ,pj,cq,p5]at hq
          rotate_right
          . rw[p3]at hq;simp [lJ,pj,cq,p5]at hq
          . rw[p3]at hq;simp [lJ,pj,cq,p7]at hq
          . rcases p5 with⟨t',b',z,r',lR,iF,p5,p6,p7⟩|⟨f,args,dj,p5,p6⟩
            . exact .inl ((hc.mm i o ho).st t' b' z r' lR iF p2 p5 (DJ hc p6 p7 (by omega) (by omega))).1
            . exact .inl ((hc.mm i o ho).cl f args dj p2 p5 p6)
          . rw[UJ p3]at hq;cases hq
            exact .inr p4
      have Fj: ∀k,c<=k->k<i->ks k=[]:=λk mV pP=>by
        have dx:ops[k]? =some ops[k]:=aU (by omega)
        exact(Z0 (hc.op k _ dx) (hI.quiet k _ mV pP dx)).1
      have QF: ∀t,(∀k o,k<i+1->fy k=false->ops[k]? =some o->o.dst≠some t)->(∀k o,i+1<=k->fy k=true->ops[k]? =some o->o.dst≠some t)->Rep c' w' (look (s (i+1)).env t) ((a.put o.dst v).tmps.getD t undef):=by
        intro t ht he
        rw[hc.env i o t ho]
        refine UL hI.size (λu=>hc.dst i o u ho) (λhd=>by rw[if_pos hd];exact hv) (λhd=> ?_)
        rw[if_neg hd,Br]
        refine Qb hn.cz (V2 (sK t (λk o' hk hl dx=> ?_) (λk o' hk hl dx=> ?_)))
        . exact ht k o' (by omega) (by rw[h2 k (by omega)];exact hl) dx
        . have gm:k≠i:=λe'=>by rw[e',h0]at hl;cases hl
          exact he k o' (by omega) (by rw[h2 k gm];exact hl) dx
      refine hK _ w' (i+1) d' ⟨g1,g2,λk hk=> ?_,g3,g4,tE,?_,?_,hI.fv,hI.gp,by
        have:=QC hc (c0:=c0) (w0:=w0) (w:=w') (dr:=fy) (a:=a.put o.dst v) (c:=i+1) (d:=d') g3 g2 ⟨c',B,hn.mem,jV,QF,nO.step hM hI.gp hn,λk hk ot=>(nC k (by omega) (by rw[<-h2 k (by omega)];exact ot)).du hn (by omega) ho,λk j hk hj ot Hg e=>oj k j (by omega) (by omega) (by rw[<-h2 k (by omega)];exact ot) (by rw[<-h2 j (by omega)];exact Hg) e⟩ (d'-(i+1)) (by omega)
        rwa [show i+1+(d'-(i+1))=d' by omega]at this⟩
      . by_cases e' : k=i
        . rw[e'];exact .inl h1
        . rw [h2 k e']
          cases hl:dr k with
          |true=>exact .inl rfl
          | false =>
            right
            by_cases VJ:k<c
            . rcases hI.pre k VJ with h|h
              . rw[hl]at h;cases h
              . rcases h with h|⟨o',q,q1,q2,q3,q4,q8⟩
                rotate_left
                . rcases q8 with q8|q8
                  rotate_left
                  . exact .inr ⟨o',q,q1,q2,q3,q4, .inr q8⟩
                  rcases Hh k o' q (by omega) q1 hl q3 with f1|f1
                  rotate_left
                  . exact .inr ⟨o',q,q1,q2,q3,q4, .inr f1⟩
                  refine .inr ⟨o',q,q1,q2,q3,q4, .inl λk' mV pP=> ?_⟩
                  by_cases JU:k'<c
                  . exact q8 k' mV JU
                  . by_cases Du:k'<i
                    . exact Fj k' (by omega) Du
                    . rw[show k'=i by omega];exact f1
                obtain⟨o',t,b,r,ii,off,row,ao,q1,q2,q3,q4,q5,q6,q7,q8⟩:=h
                have pZ:r<(s c).rows.length:=by
                  by_cases hh:r<(s c).rows.length
                  . exact hh
                  . simp only[aV,aJ (show(s c).rows.length<=r by omega)]at q7;cases q7
                have iA:=JO hc.toChain hI.quiet Hy (aX c) px (aX i) pZ
                rcases du k o' t b r ii off ao (by omega) q1 hl q2 q3 q4 q5 (by rw[iA];exact q7) with⟨f1,f2⟩|⟨f1,f2⟩
                . rcases q8 with⟨e8,q8⟩|q8
                  . refine .inl ⟨o',t,b,r,ii,off,row,ao,q1,q2,q3,q4,q5,q6,f2, .inl ⟨e8,λk' mV pP=> ?_⟩⟩
                    by_cases JU:k'<c
                    . exact q8 k' mV JU
                    . by_cases Du:k'<i
                      . exact Fj k' (by omega) Du
                      . rw[show k'=i by omega];exact f1
                  . exact .inl ⟨o',t,b,r,ii,off,row,ao,q1,q2,q3,q4,q5,q6,f2, .inr ⟨q8.1,q8.2.elim λL hL=>⟨L,hL.1,λkk hk=>(hL.2 kk hk).elim λj hj=>⟨j,hj.1,by omega,hj.2.2⟩⟩⟩⟩
                . refine .inl ⟨o',t,b,r,ii,off,row,_,q1,q2,q3,q4,q5,q6,f2, .inr ⟨f1,?_⟩⟩
                  rcases q8 with⟨e8,_⟩|⟨_,L,e8,hL⟩
                  . exact⟨[ks i],by rw[e8];rfl,λkk hk=>⟨i,by omega,by omega,List.mem_singleton.1 hk⟩⟩
                  . refine⟨L++[ks i],by rw[List.foldl_append,<-e8];rfl,λkk hk=> ?_⟩
                    rcases List.mem_append.1 hk with hk|hk
                    . obtain⟨j,j1,j2,j3⟩:=hL kk hk
                      exact⟨j,j1,by omega,j3⟩
                    . exact⟨i,by omega,by omega,List.mem_singleton.1 hk⟩
            . have dx:ops[k]? =some ops[k]:=aU (by omega)
              rcases iJ k _ (by omega) (by omega) dx with h|h
              . rw[hl]at h;cases h
              . have go: ∀t b r ii off,ops[k].guard=none->ops[k].op= .load t (.tmp b)->kM ops k b=true->look (s ops.size).env b= .ptr r ii off->QB ops s ks k (i+1):=by
                  intro t b r ii off p1 p3 p5 p7
                  obtain⟨row,c6⟩:=((hc.mm k _ dx).ld t b r ii off p1 p3 (DJ hc p5 p7 (aX _) (by omega))).2.2.1
                  have pZ:r<(s k).rows.length:=by
                    by_cases hh:r<(s k).rows.length
                    . exact hh
                    . simp only[aV,aJ (show(s k).rows.length<=r by omega)]at c6;cases c6
                  have iA:=JO hc.toChain hI.quiet Hy (show c<=k by omega) (show k<=i by omega) (aX i) pZ
                  rcases du k _ t b r ii off row (by omega) dx hl p1 p3 p5 p7 (by rw[iA];exact c6) with⟨f1,f2⟩|⟨f1,f2⟩
                  rotate_left
                  . exact .inl ⟨_,t,b,r,ii,off,row,_,dx,p1,p3,p5,p7,c6,f2, .inr ⟨f1,[ks i],rfl,λkk hk=>⟨i,by omega,by omega,List.mem_singleton.1 hk⟩⟩⟩
                  refine .inl ⟨_,t,b,r,ii,off,row,row,dx,p1,p3,p5,p7,c6,f2, .inl ⟨rfl,λk' mV pP=> ?_⟩⟩
                  by_cases Du:k'<i
                  . exact Fj k' (by omega) Du
                  . rw[show k'=i by omega];exact f1
                rcases P7 dx ho h with⟨t,b,t',b',z,r,r',ii,off,lR,iF,p1,p2,p3,p4,p5,p6,p7,p8,p9⟩|⟨q,p1,p2,p3,p4,p5⟩|⟨q,p1,p3,p4⟩|⟨t,b,r,ii,off,_,_,_,_,p1,p2,p3,p5,p7,_⟩|⟨t,b,r,ii,off,_,_,_,p1,p2,p3,p5,p7,_⟩
                rotate_right
                . exact go t b r ii off p1 p3 p5 p7
                rotate_left 2
                rotate_left
                . exact go t b r ii off p1 p3 p5 p7
                rotate_right
                . exact .inr ⟨_,q,dx,p1,UJ p3,λa ha=>(p4.1 a ha).1, .inr p4⟩
                rotate_left
                . rcases Hh k _ q (by omega) dx hl p3 with f1|f1
                  rotate_left
                  . exact .inr ⟨_,q,dx,p1,p3,p4, .inr f1⟩
                  refine .inr ⟨_,q,dx,p1,p3,p4, .inl λk' mV pP=> ?_⟩
                  by_cases Du:k'<i
                  . exact Fj k' (by omega) Du
                  . rw[show k'=i by omega];exact f1
                exact go t b r ii off p1 p3 p5 p7
      . cases hd:o.dst<;>simp [Act.put]<;>exact hI.size
      . first|exact lN.put (hI.defers.step hm hn.fr)|exact lN.put (hI.defers.step hm hn.toW.fr)
    ·
      have Hw:i<d:=by omega
      have hq:=hI.quiet i o px Hw ho
      have MD:=VG hq
      have ME: ∀t∈o.looksAt ops,Rep cx w (look (s i).env t) (a.tmps.getD t undef):=λt ht=>by
        have Hx : ∀n,c+n<=d->iY ops s val dr c n t=if c+n<=i then look (s (c+n)).env t else look (s i).env t:=by
          intro n
          induction n with
          |zero=>intro _;simp only[iY,aB];rw[if_pos px]
          | succ n ih=>
            intro hn
            obtain⟨ok,dx⟩: ∃ok,ops[c+n]? =some ok:=⟨_,aU (show c+n<ops.size by omega)⟩
            have ih:=ih (by omega)
            simp only[iY,dx,aW]
            by_cases hk:c+n<i
            . have hA:c+(n+1)<=i:=by omega
              have R5:c+n<=i:=by omega
              rw[if_pos hA,show c+(n+1)=c+n+1 by omega,hc.toChain.DQ dx (hI.quiet _ _ (by omega) (by omega) dx) t]
              rw[if_pos R5]at ih
              by_cases hd:ok.dst=some t
              . rw[if_pos ⟨seen _ _ t hk dx hd ht,hd⟩,if_pos hd]
              . rw[if_neg (λg=>hd g.2),if_neg hd,ih]
            . have Hz: ¬(dr (c+n)=true/\ok.dst=some t):=by
                rintro⟨g1,g2⟩
                by_cases e':c+n=i
                . rw[e',h0]at g1;cases g1
                . have nP:i<c+n:=by omega
                  rcases(Fi lM nP ho dx).1 with tF|hb
                  . exact(FD tF).2.2 g2 ht
                  . have:=nN _ _ g1 hb
                    rw[h0]at this;cases this
              have hA: ¬c+(n+1)<=i:=by omega
              rw[if_neg Hz,ih,if_neg hA]
              split
              . rw[show c+n=i by omega]
              . rfl
        have:=hE t (λk o' hk hl dx hd=>by rw[seen k o' t (by omega) dx hd ht]at hl;cases hl) (λk o' hk hl dx=>CM k o' t hk hl dx ht hid)
        rw[Hx (d-c) (by omega),if_neg (by omega)]at this
        exact this
      have hlen: ∀k l,c<=k->k<=l->l<=d->(s k).rows.length<=(s l).rows.length:=λk l h1 h2 h3=>JN hc.toChain hI.quiet hI.dn h1 h2 h3
      have ir: ∀k l,c<=k->k<=l->l<=d-> ∀r,r<(s k).rows.length->(s l).rows.getD r none=(s k).rows.getD r none:=λk l h1 h2 h3 r hr=>JO hc.toChain hI.quiet hI.dn h1 h2 h3 hr
      have Bh: ∀n,c+n<=d-> ∀r,r<(s i).rows.length-> ∀row,ki s dr c n r=some row->(s i).rows.getD r none=some row:=by
        intro n
        induction n with
        | zero=>
          intro _ r hr row h
          simp only[ki]at h
          by_cases VK:r<(s c).rows.length
          . rw[ir c i (aX _) px (by omega) r VK];exact h
          . simp only[aV,aJ (show(s c).rows.length<=r by omega)]at h;cases h
        | succ n ih=>
          intro hn r hr row h
          simp only[ki]at h
          split at h
          . rename_i g
            obtain⟨g1,g2,g3⟩:=g
            have VL:c+n<i:=by
              by_cases mC:c+n<i
              . exact mC
              . by_cases e':c+n=i
                . rw[e',h0]at g1;cases g1
                . have:=hlen i (c+n) px (by omega) (by omega);omega
            rw[ir (c+n+1) i (by omega) (by omega) (by omega) r g3];exact h
          . exact ih (by omega) r hr row h
      have Bi: ∀n,c+n<=d-> ∀r,(s i).rows.length<=r->r<(s (i+1)).rows.length->ki s dr c n r=none:=by
        intro n
        induction n with
        | zero=>
          intro _ r h1 h2
          have:=hlen c i (aX _) px (by omega)
          simp only[ki,aV,aJ (show(s c).rows.length<=r by omega),Option.getD_none]
        | succ n ih=>
          intro hn r h1 h2
          simp only[ki]
          rw[if_neg]
          . exact ih (by omega) r h1 h2
          . rintro⟨g1,g2,g3⟩
            by_cases e':c+n=i
            . rw[e',h0]at g1;cases g1
            . by_cases mC:c+n<i
              . have:=hlen (c+n+1) i (by omega) (by omega) (by omega);omega
              . have:=hlen (i+1) (c+n) (by omega) (by omega) (by omega);omega
      have oK:lU cx (s i).rows:=λr row ao g1 g2=>by
        have hr:r<(s i).rows.length:=by
          by_cases h:r<(s i).rows.length
          . exact h
          . simp only[aV,aJ (show(s i).rows.length<=r by omega)]at g2;cases g2
        rw[hR]at g1
        have:=Bh (d-c) (by omega) r hr row g1
        rw[this]at g2;exact Option.some.inj g2
      have fin: ∀v w' c',JM cx w (s i).rows (s (i+1)).rows c' w'->Rep c' w' (val i) v->K (a.put o.dst v) w':=by
        intro v w' c' hn hv
        refine hK _ w' c d ⟨hI.cd,hI.dn,λk hk=>by rw[h2 k (by omega)];exact hI.pre k hk,hI.quiet,hI.wr,tE,?_,?_,hI.fv,hI.gp,c',B,hn.mem,λr=> ?_,λt ht he=> ?_,nO.step (ks:=[]) (λk hk=>by simp [cv]at hk) hI.gp hn.toW.toK,λk hk ot=>(nC k hk (by rw[<-h2 k (by omega)];exact ot)).du hn.toW.toK (by omega) ho,λk j hk hj ot Hg e=>oj k j hk hj (by rw[<-h2 k (by omega)];exact ot) (by rw[<-h2 j (by omega)];exact Hg) e⟩
        . cases hd:o.dst<;>simp [Act.put]<;>exact hI.size
        . first|exact lN.put (hI.defers.step hm hn.fr)|exact lN.put (hI.defers.step hm hn.toW.fr)
        . rw[hn.rows,hR,VI px h0 h1 h2 (d:=d) (λk mV pP=>hlen (i+1) k (by omega) (by omega) (by omega)) (by omega) (by omega)]
        . have hl: ∀k o',i<k->dr k=true->ops[k]? =some o'->o'.dst=some t->o.dst=some t->False:=by
            intro k o' nP hk dx Mu VM
            rcases(Fi lM nP ho dx).1 with tF|hb
            . exact(FD tF).1 VM Mu
            . have:=nN _ _ hk hb
              rw[h0]at this;cases this
          rw[VH ho px h0 h1 h2 hl (by omega)]
          have hold:=Qb hn.cz (hE t (λk o' hk hl dx=>ht k o' hk (by rw[h2 k (by omega)];exact hl) dx) (λk o' hk hl dx=>he k o' hk (by rw[h2 k (by omega)];exact hl) dx))
          refine UL hI.size (λu=>hc.dst i o u ho) (λhd=>by rw[if_pos hd];exact hv) (λhd=>by rw[if_neg hd];exact hold)
      have skip:val i= .dv []->(s (i+1)).rows=(s i).rows->K (a.put o.dst undef) w:=λe1 e2=>
        fin undef w cx ⟨hm,iX.refl _ _,Fr.refl _ _,λb hb=> .inl hb,λr=>by rw[e2,if_neg (by omega)],λ_ _=>⟨rfl,Iff.rfl⟩,λr g1 g2=>by rw[e2]at g2;omega⟩ (by rw[e1];exact R6 _ _)
      have run:pr P G M o (cq (s i).env) (s i).rows (ks i) (val i) (s (i+1)).rows->o.mW P a w K Q:=λhX=>by
        unfold pr at hX
        rw[MD]at hX
        refine hX.2.2 cx w a hm jc oK (λr g1 g2=>by rw[hR];exact Bi (d-c) (by omega) r g1 g2) (λx hx=> ?_) K Q fin
        cases x with
        | tmp t=>
          refine ME t ?_
          unfold Oper.looksAt
          exact eS _ (List.mem_filterMap.2 ⟨.tmp t,by simpa using hx,rfl⟩)
        | const v=>
          simp only[cq,Act.eval]
          cases hv:FE v with
          |none=>trivial
          |some d=>exact MF hv cx w
        |global g=>trivial
        |func f=>exact JP f
      have hG:=hc.op i o ho
      unfold wpOp
      simp only[ho]
      unfold nh at hG
      cases hg:o.guard with
      | none=>
        simp only[hg]at hG
        have hw:Region.wanted o (yielded ops a.tmps)=true:=by simp [Region.wanted,hg]
        rw[if_pos hw]
        exact run hG
      | some jw=>
        obtain⟨j,want⟩:=jw
        simp only[hg]at hG
        obtain⟨g,g2,hG⟩:=hG
        have hr:=ME g (by
          unfold Oper.looksAt
          refine eX _ ?_
          simp only[hg,g2];simp)
        rcases hG with⟨b,g3,g4⟩|⟨g3,_,e1,e2⟩
        rotate_left
        . rw[g3]at hr
          rw[if_neg (by rw[R7 (o:=o) hg g2 hr];simp)]
          exact skip e1 e2
        rw[g3]at hr
        have hw:=R8 (o:=o) hg g2 hr
        by_cases e':b=want
        . rw[if_pos e']at g4
          rw[if_pos (by rw[hw];simpa using e')]
          exact run g4
        . rw[if_neg e']at g4
          rw[if_neg (by rw[hw];simpa using e')]
          exact skip g4.2.1 g4.2.2
  ·
    have VD:i<c:=by omega
    rcases hI.pre i VD with h|h
    . rw[h0]at h;cases h
    have QG: ∀b,kM ops i b=true->(∀k,i<k->k<c->ks k=[])->ks i=[]->look (s c).env b=look (s i).env b:=by
      intro b hb q8 q9
      have: ∀k,i<=k->k<=c->look (s k).env b=look (s i).env b:=by
        intro k
        induction k with
        |zero=>intro h1 _;rw[show i=0 by omega]
        | succ k ih=>
          intro h1 h2
          by_cases e':i=k+1
          . rw[e']
          . have dx:ops[k]? =some ops[k]:=aU (by omega)
            rw[hc.env k _ b dx,if_neg (Jm hb (by omega) dx)]
            by_cases e2:k=i
            . rw[e2,q9,ow]
            . rw[q8 k (by omega) (by omega),ow];exact ih (by omega) (by omega)
      exact this c (by omega) (aX _)
    have og: ∀b,kM ops i b=true->b∈o.looksAt ops->Rep cx w (look (s c).env b) (a.tmps.getD b undef):=λb hnb YN=>by
      have:=hE b (λk o' hk hl dx hd=>by
        by_cases VL:k<i
        . rw[seen k o' b VL dx hd YN]at hl;cases hl
        . exact Jm hnb (by omega) dx hd) (λk o' hk hl dx=>CM k o' b hk hl dx YN hid)
      rwa [ZM hc (λk o' hk dx hd=>(Jm hnb (by omega) dx hd).elim)]at this
    obtain ⟨q2,q8,hN,CH⟩:o.guard=none/\((∀k,i<k->k<c->ks k=[])\/ ∀t,o.dst=some t->kM ops (i+1) t=true/\sL (look (s ops.size).env t)=true)/\pz P o (cq (s c).env) (s c).rows (val i) (s c).rows/\ ∀x∈o.op.operands,Rep cx w (cq (s c).env x) (a.eval x):=by
      rcases h with⟨o',t0,b,r,ii,off,row,ao,q1,q2,q3,q4,q5,q6,q7,q8⟩|⟨o',q,q1,q2,q3,q4,q8⟩
      . rw [ho]at q1;cases q1
        have hpc:look (s c).env b= .ptr r ii off:=DJ hc q4 q5 (by omega) (by omega)
        have ZQ:look (s i).env b= .ptr r ii off:=DJ hc q4 q5 (by omega) (by omega)
        have sN:=(hc.mm i o ho).ld t0 b r ii off q2 q3 ZQ
        have ei:cq (s c).env (.tmp b)= .ptr r ii off:=by simp [cq,hpc]
        have q9:((∀k,i<k->k<c->ks k=[])\/ ∀t,o.dst=some t->kM ops (i+1) t=true/\sL (look (s ops.size).env t)=true)/\pz P o (cq (s c).env) (s c).rows (val i) (s c).rows:=by
          rcases q8 with⟨e8,q8⟩|⟨⟨td,d1,d2,d3⟩,L,e8,hL⟩
          . subst e8
            exact⟨.inl q8,sN.2.2.2.1 (cq (s c).env) (s c).rows ei (by rw[q6,q7])⟩
          . refine⟨.inr λt ht=>by rw[d1]at ht;cases ht;exact⟨d2,P6 d3⟩,sN.2.2.2.2 (cq (s c).env) (s c).rows row L ?_ (λkk hk=> ?_) ei q6 (by rw[q7,e8])⟩
            rotate_left
            . obtain⟨j,j1,j2,rfl⟩:=hL kk hk
              have h5:=DK hc d2 (P6 d3) (aX _) (show i+1<=ops.size by omega)
              have h6:=hc.env i o td ho
              rw[if_pos d1,h5]at h6
              have g1:=DK hc d2 (P6 d3) (show i+1<=j by omega) (show j<=ops.size by omega)
              have g2:=DK hc d2 (P6 d3) (show i+1<=j+1 by omega) (show j+1<=ops.size by omega)
              have dx:ops[j]? =some ops[j]:=aU (by omega)
              rw[hc.env j _ td dx,if_neg (Jm d2 (by omega) dx),Br,g1,Zsc d3]at g2
              rw[<-h6];exact g2
            have h5:=DK hc d2 (P6 d3) (aX _) (show i+1<=ops.size by omega)
            have h6:=hc.env i o td ho
            rw[if_pos d1]at h6
            rw[<-h6,h5];exact d3
        refine⟨q2,q9.1,q9.2,λx hx=> ?_⟩
        have jD:x= .tmp b:=by simpa [q3,Op.operands] using hx
        rw[jD]
        refine og b q4 ?_
        unfold Oper.looksAt
        exact eS _ (List.mem_filterMap.2 ⟨.tmp b,by rw[q3];simp [Op.operands],rfl⟩)
      . rw [ho]at q1;cases q1
        have sN:=(hc.mm i o ho).pu q q2 (Zpe hc q3 q4 (aX _) (by omega))
        refine⟨q2,q8.imp id λg t ht=>⟨(g.2 t ht).1,ZF (g.2 t ht).2⟩,sN.2.2 (cq (s c).env) (s c).rows (λx hx=> ?_),λy hy=> ?_⟩
        . cases x with
          | tmp b=>
            rcases q8 with q8|q8
            . exact QG b (q4 b (ZE q3 hx)) q8 sN.1
            . obtain⟨g1,g2⟩:=q8.1 b (ZE q3 hx)
              show look (s c).env b=look (s i).env b
              rw[DK hc g1 (ZF g2) (by omega) (by omega),DK hc g1 (ZF g2) (aX _) (by omega)]
          |_=>rfl
        . cases y with
          | tmp b=>
            refine og b (q4 b (ZE q3 hy)) ?_
            unfold Oper.looksAt
            exact eS _ (List.mem_filterMap.2 ⟨.tmp b,by simpa using hy,rfl⟩)
          | const v=>
            simp only[cq,Act.eval]
            cases hv:FE v with
            |none=>trivial
            |some d=>exact MF hv cx w
          |global g=>trivial
          |func f=>exact JP f
    have oK:lU cx (s c).rows:=λr' PU jq g1 g2=>by
      have hr:r'<(s c).rows.length:=by
        by_cases h:r'<(s c).rows.length
        . exact h
        . simp only[aV,aJ (show(s c).rows.length<=r' by omega)]at g2;cases g2
      rw[hR,Zhp hc hI.quiet Hy hr (by omega),g2]at g1
      exact(Option.some.inj g1).symm
    have fin: ∀v w' c',JM cx w (s c).rows (s c).rows c' w'->Rep c' w' (val i) v->K (a.put o.dst v) w':=by
      intro v w' c' hn hv
      refine hK _ w' c d ⟨VQ,Hy,λk hk=> ?_,hI.quiet,hI.wr,tE,?_,?_,hI.fv,hI.gp,c',B,hn.mem,λr'=> ?_,λt ht he=> ?_,nO.step (ks:=[]) (λk hk=>by simp [cv]at hk) hI.gp hn.toW.toK,λk hk ot=>(nC k hk (by rw[<-h2 k (by omega)];exact ot)).du hn.toW.toK (by omega) ho,λk j hk hj ot Hg e=>oj k j hk hj (by rw[<-h2 k (by omega)];exact ot) (by rw[<-h2 j (by omega)];exact Hg) e⟩
      . by_cases e':k=i
        . rw[e'];exact .inl h1
        . rw[h2 k e'];exact hI.pre k hk
      . cases hd:o.dst<;>simp [Act.put]<;>exact hI.size
      . first|exact lN.put (hI.defers.step hm hn.fr)|exact lN.put (hI.defers.step hm hn.toW.fr)
      . rw[hn.rows,hR,if_neg (by omega),R4 (λk hk=>h2 _ (by omega))]
      . rw [R3 (λk hk=>h2 _ (by omega))]
        refine UL hI.size (λu=>hc.dst i o u ho) (λhd=> ?_) (λhd=> ?_)
        ·
          have mQ: ∀k o',i<k->ops[k]? =some o'->o'.dst=some t->dr k=false:=λk o' hk dx o7=>by
            cases hl:dr k with
            |false=>rfl
            | true=>
              rcases(Fi lM hk ho dx).1 with tF|hb
              . exact((FD tF).1 hd o7).elim
              . have:=nN _ _ hl hb
                rw[h0]at this;cases this
          have ZR: ∀k o',i<k->k<c->ops[k]? =some o'->o'.dst≠some t:=λk o' mV pP dx o7=>
            ht k o' pP (by rw[h2 k (by omega)];exact mQ k o' mV dx o7) dx o7
          rw[ZM hc (λk o' hk dx o7=>mQ _ o' (by omega) dx o7)]
          have: ∀k,i<k->k<=c->look (s k).env t=val i:=by
            rcases q8 with q8|q8
            rotate_left
            . intro k mV pP
              obtain⟨g1,g2⟩:=q8 t hd
              have:=hc.env i o t ho
              rw[if_pos hd]at this
              rw[<-this,DK hc g1 g2 (by omega) (by omega),DK hc g1 g2 (aX _) (by omega)]
            intro k
            induction k with
            |zero=>intro h;omega
            | succ k ih=>
              intro mV pP
              have dx:ops[k]? =some ops[k]:=aU (by omega)
              by_cases e':k=i
              . subst e'
                rw[ho]at dx
                rw[hc.env k o t ho,if_pos hd]
              . rw[hc.env k _ t dx,if_neg (ZR k _ (by omega) (by omega) dx),q8 k (by omega) (by omega),ow]
                exact ih (by omega) (by omega)
          rw[this c VD (aX _)]
          exact hv
        . refine Qb hn.cz (hE t (λk o' hk hl dx o7=> ?_) (λk o' hk hl dx=>he k o' hk (by rw[h2 k (by omega)];exact hl) dx))
          by_cases e':k=i
          . subst e'
            rw[ho]at dx;cases dx
            exact hd o7
          . exact ht k o' hk (by rw[h2 k e'];exact hl) dx o7
    unfold wpOp
    simp only[ho]
    have hw:Region.wanted o (yielded ops a.tmps)=true:=by simp [Region.wanted,q2]
    rw[if_pos hw]
    exact hN.2 cx w a hm jc oK (λr' g1 g2=>by omega) CH K Q fin
theorem Zjv{c d:Nat}(hI:Inv2 P G N M ops s ks val c0 w0 dr a w c d)(iJ:∀i,i<ops.size->dr i=true):∃cx,ff N M c0 w0 cx w (s ops.size) a:=by
 obtain⟨cx,B,hm,hR,hE,nO,nC,oj⟩:=hI.ctx
 have hd:d=ops.size:=by
  by_cases h:d<ops.size
  ·obtain⟨o',t,_,_,g1,_,g3,_⟩:=nC d (aX _) (iJ d h)
   have:=hI.wr _ g1
   unfold kO at this
   rw[g3]at this;cases this
  ·have:=hI.dn;omega
 subst hd
 have VQ:=hI.cd
 have hl:∀k,k<ops.size-c->dr (c+k)=true:=λk hk=>iJ _ (by omega)
 refine⟨cx,hm,λr=>?_,λt=>?_,hI.size,hI.defers,hI.fv,hI.gp,nO⟩
 ·rw[hR,RY hc.toChain hI.quiet hI.dn (by omega) hl,show c+(ops.size-c)=ops.size by omega]
 ·have:=hE t (λk o hk h0 dx=>by rw[iJ k (Array.getElem?_eq_some_iff.1 dx).1]at h0;cases h0) (λk o hk _ dx=>by have:=(Array.getElem?_eq_some_iff.1 dx).1;omega)
  rw[RX hc.toChain hI.quiet hI.dn (by omega) hl]at this
  rwa [show c+(ops.size-c)=ops.size by omega]at this
theorem xy(hQ:∀c w a,ff N M c0 w0 c w (s ops.size) a->Q .normal a w):∀(fuel:Nat) (au:Array Bool) (a:Act) (w:World) (c d:Nat),au.size=ops.size->mF (λi=>au.getD i false) ops.size<=fuel->
 Inv2 P G N M ops s ks val c0 w0 (λi=>au.getD i false) a w c d->HA P .any ops Q fuel au a w:=by
 intro fuel
 have Ay:∀(au:Array Bool) (i:Nat),au.size=ops.size->(i∈Region.ready .any ops au↔ ∃o,ops[i]?=some o/\au.getD i false=false/\∀e∈o.after,Region.binds .any e=true->au.getD e.on false=true):=by
  intro au i fp
  unfold Region.ready
  rw[gM,gN]
  constructor
  ·rintro⟨h1,h2⟩
   have ho:ops[i]?=some ops[i]:=aU h1
   simp only[ho,bA,aR,aE,bB]at h2
   refine⟨_,ho,?_,λe he hb=>?_⟩
   ·have hl:i<au.size:=by omega
    have:=h2.1
    simpa[aY,hl]using this
   ·have:=Array.all_eq_true'.1 h2.2 e he
    simpa[hb]using this
  ·rintro⟨o,ho,h1,h2⟩
   have bg:=(Array.getElem?_eq_some_iff.1 ho).1
   refine⟨bg,?_⟩
   simp only[ho,bA,aR,aE,bB]
   have hl:i<au.size:=by omega
   refine⟨by simpa[aY,hl]using h1,Array.all_eq_true'.2 λe he=>?_⟩
   cases hb:Region.binds .any e with
   |false=>rfl
   |true=>simpa[hb]using h2 e he hb
 have j7:∀(au:Array Bool),au.size=ops.size->Region.ready .any ops au=[]->∀i,i<ops.size->au.getD i false=true:=by
  intro au fp he i
  induction i using Nat.strongRecOn with
  |_ i ih=>
   intro hi
   cases hl:au.getD i false with
   |true=>rfl
   |false=>
    exfalso
    have ho:ops[i]?=some ops[i]:=aU hi
    have:i∈Region.ready .any ops au:=(Ay au i fp).2 ⟨_,ho,hl,λe wK hb=>by
     have:=Zkz lM ho e wK hb
     exact ih e.on this (by omega)⟩
    rw[he]at this;cases this
 induction fuel with
 |zero=>
  intro au a w c d fp Bj hI
  have iJ:=VO (dr:=λi=>au.getD i false) (Nat.le_zero.1 Bj)
  refine⟨?_,?_⟩
  ·rw[List.eq_nil_iff_forall_not_mem]
   intro i hi
   obtain⟨o,ho,h1,_⟩:=(Ay au i fp).1 hi
   have:=iJ i (Array.getElem?_eq_some_iff.1 ho).1
   rw[h1]at this;cases this
  ·obtain⟨cx,hs⟩:=Zjv hc lM hI iJ
   exact hQ cx w a hs
 |succ fuel ih=>
  intro au a w c d fp Bj hI
  refine⟨λhe=>?_,λi hi=>?_⟩
  ·obtain⟨cx,hs⟩:=Zjv hc lM hI (j7 au fp he)
   exact hQ cx w a hs
  ·obtain⟨o,ho,h1,h2⟩:=(Ay au i fp).1 hi
   have bg:=(Array.getElem?_eq_some_iff.1 ho).1
   have rQ:(au.setIfInBounds i true).getD i false=true:=by
    have hl:i<au.size:=by omega
    simp[aY,hl]
   have rR:∀k,k≠i->(au.setIfInBounds i true).getD k false=au.getD k false:=λk hk=>by
    rw[aQ,aZ (Ne.symm hk),<-aQ]
   refine qy hc lM (fy:=λk=>(au.setIfInBounds i true).getD k false) hI ho h1 rQ rR h2 λa' w' c' d' VR=>?_
   refine ih _ a' w' c' d' (by simpa using fp) ?_ VR
   have:=VP (dr:=λk=>au.getD k false) (fy:=λk=>(au.setIfInBounds i true).getD k false) h1 rQ rR bg
   omega
end
theorem Ay{au:Array Bool}(fp:au.size=ops.size):i∈Region.ready .any ops au↔ ∃o,ops[i]?=some o/\au.getD i false=false/\∀e∈o.after,Region.binds .any e=true->au.getD e.on false=true:=by
 unfold Region.ready
 rw[gM,gN]
 constructor
 ·rintro⟨h1,h2⟩
  have ho:ops[i]?=some ops[i]:=aU h1
  simp only[ho,bA,aR,aE,bB]at h2
  refine⟨_,ho,?_,λe he hb=>?_⟩
  ·have hl:i<au.size:=by omega
   have:=h2.1
   simpa[aY,hl]using this
  ·have:=Array.all_eq_true'.1 h2.2 e he
   simpa[hb]using this
 ·rintro⟨o,ho,h1,h2⟩
  have bg:=(Array.getElem?_eq_some_iff.1 ho).1
  refine⟨bg,?_⟩
  simp only[ho,bA,aR,aE,bB]
  have hl:i<au.size:=by omega
  refine⟨by simpa[aY,hl]using h1,Array.all_eq_true'.2 λe he=>?_⟩
  cases hb:Region.binds .any e with
  |false=>rfl
  |true=>simpa[hb]using h2 e he hb
theorem zy{r:Nat}:∀{l:List Nat} {k:Nat},r∉l->pos r l k=k+l.length
 |[],k,_=>rfl
 |x::l,k,h=>by
  simp only[List.mem_cons,not_or]at h
  simp only[pos]
  cases hb:Nat.beq x r with
  |true=>exact(h.1 (bE hb).symm).elim
  |false=>show pos r l (k+1)=_;rw[zy h.2];simp;omega
section
variable {p:List Nat} {ops:Array Oper} (hp:UM p ops.size=true)
include hp
theorem UN:p.length=ops.size/\(∀i,i<ops.size->i∈p)/\(∀i∈p,i<ops.size)/\p.Nodup:=by
 unfold UM at hp
 simp only[aE]at hp
 obtain⟨h1,h2,h3,h4⟩:=hp
 exact⟨bE h1,λi hi=>nF.1 (List.all_eq_true.1 h2 i (List.mem_range.2 hi)),λi hi=>lE (List.all_eq_true.1 h3 i hi),LJ.1 h4⟩
theorem Hi(hi:i<ops.size):pos i p 0<ops.size/\p[pos i p 0]?=some i:=by
 obtain⟨h1,h2,h3,h4⟩:=UN hp
 have:=AS (h2 i hi)
 exact⟨by have:=(List.getElem?_eq_some_iff.1 this).1;omega,this⟩
theorem Zir(h:pos i p 0<ops.size):i<ops.size:=by
 obtain⟨h1,h2,h3,h4⟩:=UN hp
 by_cases hm:i∈p
 ·exact h3 i hm
 ·rw[zy hm]at h;omega
theorem ZS:(na p ops).size=ops.size:=by
 obtain⟨h1,_⟩:=UN hp
 simp[na,h1]
theorem UO(hk:p[k]?=some i)(ho:ops[i]?=some o):(na p ops)[k]?=some (L5 p o):=by
 have:ops.getD i default=o:=by
  have bg:=(Array.getElem?_eq_some_iff.1 ho).1
  have:=(Array.getElem?_eq_some_iff.1 ho).2
  simp[aY,bg,this]
 simp[na,hk,ho]
theorem Zkm(tmps:Array Value)(j:Nat):yielded (na p ops) tmps (pos j p 0)=yielded ops tmps j:=by
 by_cases hj:j<ops.size
 ·have ho:ops[j]?=some ops[j]:=aU hj
  have h1:=UO hp (Hi hp hj).2 ho
  simp only[yielded,h1,ho,aW]
  rfl
 ·have h1:ops[j]?=none:=gO (by omega)
  have h2:(na p ops)[pos j p 0]?=none:=by
   refine gO ?_
   rw[ZS hp]
   by_cases h:pos j p 0<ops.size
   ·exact(hj (Zir hp h)).elim
   ·omega
  simp only[yielded,h1,h2,Option.bind_none]
theorem Zmj(tmps:Array Value):Region.wanted (L5 p o) (yielded (na p ops) tmps)=Region.wanted o (yielded ops tmps):=by
 unfold Region.wanted L5
 cases hg:o.guard with
 |none=>rfl
 |some jw=>obtain⟨j,w⟩:=jw;simp only[Zkm hp]
theorem yy{K K':Act->World->Prop}(hi:i<ops.size)(hK:∀a w,K' a w->K a w)(h:wpOp P (na p ops) Q (pos i p 0) K' a w):wpOp P ops Q i K a w:=by
 have ho:ops[i]?=some ops[i]:=aU hi
 have h1:=UO hp (Hi hp hi).2 ho
 unfold wpOp at h⊢
 simp only[ho]
 simp only[h1,Zmj hp]at h
 split at h
 ·rename_i hw
  rw[if_pos hw]
  exact V1 (Q:=Q) hK h
 ·rename_i hw
  rw[if_neg hw]
  exact hK _ _ h
theorem Zqt:∀(fuel:Nat) (au e9:Array Bool) (a:Act) (w:World),au.size=ops.size->e9.size=ops.size->(∀i,i<ops.size->e9.getD (pos i p 0) false=au.getD i false)->
 HA P .any (na p ops) Q fuel e9 a w->HA P .any ops Q fuel au a w:=by
 have fp:=ZS hp
 obtain⟨f1,f2,f3,f4⟩:=UN hp
 have up:∀(au e9:Array Bool) (i:Nat),au.size=ops.size->e9.size=ops.size->(∀i,i<ops.size->e9.getD (pos i p 0) false=au.getD i false)->i∈Region.ready .any ops au->i<ops.size/\pos i p 0∈Region.ready .any (na p ops) e9:=by
  intro au e9 i h1 h2 h3 hi
  obtain⟨o,ho,g1,g2⟩:=(Ay h1).1 hi
  have bg:=(Array.getElem?_eq_some_iff.1 ho).1
  refine⟨bg,(Ay (by rw[h2,fp])).2 ⟨_,UO hp (Hi hp bg).2 ho,by rw[h3 i bg];exact g1,λe he hb=>?_⟩⟩
  simp only[L5,gP]at he
  obtain⟨e',wK,rfl⟩:=he
  have:=g2 e' wK hb
  have JS:e'.on<ops.size:=by
   by_cases h:e'.on<ops.size
   ·exact h
   ·rw[aY,dif_neg (by omega)]at this;cases this
  show e9.getD (pos e'.on p 0) false=true
  rw[h3 _ JS];exact this
 have down:∀(au e9:Array Bool) (k:Nat),au.size=ops.size->e9.size=ops.size->(∀i,i<ops.size->e9.getD (pos i p 0) false=au.getD i false)->k∈Region.ready .any (na p ops) e9->∃i,i∈Region.ready .any ops au:=by
  intro au e9 k h1 h2 h3 hk
  obtain⟨o',jh,g1,g2⟩:=(Ay (by rw[h2,fp])).1 hk
  have bg:=(Array.getElem?_eq_some_iff.1 jh).1
  rw[fp]at bg
  have AT:p[k]?=some p[k]:=List.getElem?_eq_getElem (by omega)
  have hi:=f3 _ (fL AT)
  have ho:ops[p[k]]?=some ops[p[k]]:=aU hi
  have QH:pos p[k] p 0=k:=by
   have:=(Hi hp hi).2
   exact(List.getElem?_inj (by have:=(Hi hp hi).1;omega) f4).1 (this.trans AT.symm)
  have h4:=UO hp AT ho
  rw[jh]at h4;cases h4
  refine⟨p[k],(Ay h1).2 ⟨_,ho,by rw[<-h3 _ hi,QH];exact g1,λe he hb=>?_⟩⟩
  have:=g2 (CO p e) (by simp only[L5,gP];exact⟨e,he,rfl⟩) hb
  have this:e9.getD (pos e.on p 0) false=true:=this
  have JS:pos e.on p 0<ops.size:=by
   by_cases h:pos e.on p 0<ops.size
   ·exact h
   ·rw[aY,dif_neg (by omega)]at this;cases this
  rw[<-h3 _ (Zir hp JS)];exact this
 intro fuel
 induction fuel with
 |zero=>
  intro au e9 a w h1 h2 h3 h
  refine⟨?_,h.2⟩
  cases hr:Region.ready .any ops au with
  |nil=>rfl
  |cons i l=>
   have:=(up au e9 i h1 h2 h3 (by rw[hr];simp)).2
   rw[h.1]at this;cases this
 |succ fuel ih=>
  intro au e9 a w h1 h2 h3 h
  refine⟨λhe=>h.1 ?_,λi hi=>?_⟩
  ·cases hr:Region.ready .any (na p ops) e9 with
   |nil=>rfl
   |cons k l=>
    obtain⟨i,hi⟩:=down au e9 k h1 h2 h3 (by rw[hr];simp)
    rw[he]at hi;cases hi
  ·obtain⟨bg,iA⟩:=up au e9 i h1 h2 h3 hi
   refine yy hp bg (λa' w' hk=>ih _ _ a' w' (by simpa using h1) (by simpa using h2) (λk hk=>?_) hk) (h.2 _ iA)
   have ZQ:=(Hi hp bg)
   have AT:=(Hi hp hk)
   have gs:∀(A:Array Bool) (x y:Nat),x<A.size->(A.setIfInBounds x true).getD y false=if x=y then true else A.getD y false:=λA x y hx=>by
    simp only[aQ,Array.getElem?_setIfInBounds]
    split
    ·rename_i e;subst e;simp[hx]
    ·rfl
   rw[gs _ _ _ (by omega),gs _ _ _ (by omega)]
   by_cases e:i=k
   ·subst e;simp
   ·have gm:pos i p 0≠pos k p 0:=λe'=>by
     have:=AT.2
     rw[<-e',ZQ.2]at this
     exact e (Option.some.inj this)
    rw[if_neg e,if_neg gm];exact h3 k hk
end
theorem Zo2{ro:Option Nat}(hm:P.follows .mixedOrders=true){N M id:Nat}{Q:Ex->St->Prop}(hT:Q4 P T)(hG:jr P G){p:List Nat}(hp:UM p ops.size=true)(h:lL T G N M (na p ops) (na p ops).toList st λst=>cu (P9 G (na p ops) st.env) (Q .normal st)):tG ro P N M (.region id ops true) st Q:=by
 intro c0 w0 c w a hs
 have hs:=hs.drew
 refine Qwf hm ?_
 refine Zqt hp ops.size _ (gE ops.size false) a _ (by simp) (by simp) (λi hi=>by simp[aY,(Hi hp hi).1,hi]) ?_
 obtain⟨s,ks,val,h1,h2,h3,h4,h5,h6⟩:=Zis hT hG (na p ops).toList 0 st (by simp) h
 have hc:UK P G N M (na p ops) s ks val:=⟨⟨λi o ho=>h3 i o (bC _) ho,λi o t ho=>h4 i o t (bC _) ho,λi o t ho=>h5 i o t (bC _) ho⟩,λi o ho=>h6 i o (bC _) ho⟩
 have fp:s (0+(na p ops).toList.length)=s (na p ops).size:=by simp
 rw[fp]at h2
 obtain⟨hd,h2⟩:=dd.1 h2
 have kL:=ZS hp
 obtain⟨d,g1,g2,g3,g4⟩:=MB G (na p ops) _ 0 rfl (bC _)
 have hz:∀i,(gE (na p ops).size false).getD i false=false:=λi=>by
  by_cases h:i<(na p ops).size
  ·simp[aY,h]
  ·simp[aY,h]
 rw[<-kL]
 refine xy hc hd (Q:=λe a' w'=>∃ex ji c',mG e=some ex/\Q ex ji/\ff N M c0 w0 c' w' ji a') (λc w a iP=>⟨_,_,c,rfl,h2,iP⟩) (na p ops).size _ a _ 0 d (by simp) (VN _ _)
  ⟨g1,g2,λi hi=>by omega,g3,g4,λj hj=>by simp[hz]at hj,hs.size,hs.defers,hs.fv,hs.gp,c,λ_=>0,hs.mem,λr=>?_,λt _ _=>?_,hs.reach,λi _ hl=>by simp[hz]at hl,λi j _ _ hl=>by simp[hz]at hl⟩
 ·rw[Qt (λi _=>hz _),h1];exact hs.rows r
 ·rw[RZ (λi _=>hz _),h1];exact hs.env t
theorem qz(hm:P.follows .mixedOrders=true):pk P:=by
 intro ro T G N M id ops st Q hT hG h
 unfold uA at h
 split at h
 ·rename_i hd
  exact xa hm ro T G N M id ops st Q hT hG hd h
 ·obtain⟨h1,h2⟩:=dd.1 h
  exact Zo2 hm hT hG h1 h2
