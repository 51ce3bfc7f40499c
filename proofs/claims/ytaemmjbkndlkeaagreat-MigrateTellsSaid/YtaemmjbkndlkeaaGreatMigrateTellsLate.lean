import Derived.Test.YtaemmjbkndlkeaaGreatMigrateTellsDraw
open List renaming all_cons->hJ,mem_cons_self->fH,getD->aV,getElem?_eq_none->aJ,mem_of_getElem?->gC,mem_append_left->fF,mem_append_right->fK,mem_filter->iA,mem_range->iB
open Array renaming mem_toList_iff->hZ,toArray_toList->bW,getElem?_eq_getElem->aU,getElem?_setIfInBounds_ne->aZ,getD->aY,getD_eq_getD_getElem?->aQ,getElem?_eq_none->iC,mem_map->iD,replicate->gX
open Option renaming bind_some->aW,map_some->bA,getD_some->aR
open Bool renaming or_eq_true->aT,false_eq_true->aA,not_eq_true'->bB
open Nat renaming lt_of_lt_of_le->bM,le_refl->aX,add_zero->aB,zero_le->bC
set_option linter.all false
namespace Go.GD
open Go
set_option linter.unusedSectionVars false
variable {G:List bd}{K:D->Rows->Prop}{M N b i j k off r u:Nat}{P:Program}{Q:Exit->Act->World->Prop}{R:Rows}{T:iz}{a:Act}{arr:Array Value}{c c' c0:Ctx}{d:D}{ev:Operand->D}{dt:Nat->Bool}{o x y:Oper}{op:Op}{ops:Array Oper}{pl:Bool}{q:List Nat}{row:Row}{s:Nat->St}{st:St}{t:TypeId}{ti:TI}{ty:rT}{v:Value}{val:Nat->D}{w w' w0:World}
theorem Z3w{K:D->Prop}(h:wz pl ty d K):∃d',K d'/\∀K2:D->Prop,K2 d'->wz pl ty d K2:=by
 cases ty<;>simp only[wz]at h⊢
 ·exact⟨_,(de.1 h).2,λK2 h2=>de.2 ⟨(de.1 h).1,h2⟩⟩
 ·exact⟨_,(de.1 h).2,λK2 h2=>de.2 ⟨(de.1 h).1,h2⟩⟩
 ·exact⟨_,(de.1 h).2,λK2 h2=>de.2 ⟨(de.1 h).1,h2⟩⟩
 ·cases pl
  ·simp only[D.c7]at h⊢
   exact⟨_,(de.1 h).2,λK2 h2=>de.2 ⟨(de.1 h).1,h2⟩⟩
  ·exact⟨_,(de.1 h).2,λK2 h2=>de.2 ⟨(de.1 h).1,h2⟩⟩
 ·cases pl
  ·simp only[D.c7]at h⊢
   exact⟨_,(de.1 h).2,λK2 h2=>de.2 ⟨(de.1 h).1,h2⟩⟩
  ·cases d<;>first|exact h.elim|exact⟨_,h,λK2 h2=>h2⟩
theorem Qi{pl:Bool}{e:List D}:∀{dh:List rT} {off:Nat} {K:List D->Prop},Fb pl e dh off K->∃ds,K ds/\∀K2:List D->Prop,K2 ds->Fb pl e dh off K2
 |[],off,K,h=>⟨[],h,λK2 h2=>h2⟩
 |t::ts,off,K,h=>by
  simp only[Fb]at h⊢
  obtain⟨d,hd,h1⟩:=Z3w h
  obtain⟨ds,Fc,h2⟩:=Qi hd
  exact⟨_,Fc,λK2 hk=>h1 _ (h2 _ hk)⟩
theorem Xg{e:List D}{K:D->Prop}(h:wA pl ti e off K):∃d,K d/\∀K2:D->Prop,K2 d->wA pl ti e off K2:=by
 unfold wA at h
 cases hg:ti.kind.isAgg with
 |true=>
  simp only[hg]at h
  obtain⟨ds,h1,h2⟩:=Qi h
  exact⟨_,h1,λK2 hk=>by unfold wA;simp only[hg];exact h2 _ hk⟩
 |false=>
  simp only[hg]at h
  split at h
  ·rename_i y hy
   obtain⟨d,h1,h2⟩:=Z3w h
   exact⟨_,h1,λK2 hk=>by unfold wA;simp only[hg,hy];exact h2 _ hk⟩
  ·exact h.elim
theorem Zpu(h:Aw T t (.ptr r i off) R K):
 ∃d,K d R/\(∃row,R.getD r none=some row)/\∀R2:Rows,R2.getD r none=R.getD r none->Aw T t (.ptr r i off) R2 λd' R'=>d'=d/\R'=R2:=by
 unfold Aw at h
 cases hT:T.get t with
 |none=>simp only[hT]at h
 |some ti=>
  simp only[hT]at h
  cases hr:R.getD r none with
  |none=>simp only[hr]at h
  |some row=>
   obtain⟨box,ty,sz,es⟩:=row
   simp only[hr,de]at h
   obtain⟨h0,h⟩:=h
   obtain⟨d,h1,h2⟩:=Xg h
   refine⟨d,h1,?_,λR2 wv=>?_⟩
   ·exact⟨_,rfl⟩
   ·unfold Aw
    simp only[hT,wv,de]
    exact⟨h0,h2 _ (by simp)⟩
theorem Z6w{ks:List Nat}(h:GL d=true):d.fg ks=d:=by cases d<;>first|rfl|cases h
theorem Z6x{ks:List Nat}:∀{l:List D},l.all GL=true->D.jE ks l=l
 |[],_=>rfl
 |d::l,h=>by
  simp only[hJ,aE]at h
  simp only[D.jE]
  rw[Z6w h.1,Z6x h.2]
theorem Ztp{ks:List Nat}(h:GL (d.fg ks)=true):d.fg ks=d:=by
 cases d<;>first
  |rfl
  |(simp only[D.fg]at h;split at h<;>cases h)
theorem Qr6{ks:List Nat}:∀{l:List D},(D.jE ks l).all GL=true->D.jE ks l=l
 |[],_=>rfl
 |d::l,h=>by
  simp only[D.jE,hJ,aE]at h
  simp only[D.jE]
  rw[Ztp h.1,Qr6 h.2]
theorem Zye(h:rj d=true)(ks:List Nat):d.ko ks=d.fg ks:=by
 cases d<;>first
  |rfl
  |(cases h;done)
  |(simp only[D.ko,D.kill,D.fg];rw[Z6x h])
theorem Zh{d d':D}{ks:List Nat}(h:wz pl ty d λx=>x=d')(hd:d'.fg ks=d'):d.fg ks=d:=by
 cases ty<;>simp only[wz]at h
 ·cases d<;>first|rfl|(simp[D.isInt,de]at h;done)
 ·cases d<;>first|rfl|(simp[D.isBool,de]at h;done)
 ·cases d<;>first|rfl|(simp[D.isStr,de]at h;done)
 ·cases pl
  ·simp only[D.c7,de]at h
   rw[h.2];exact hd
  ·simp only[de]at h
   cases d<;>first|rfl|(simp[D.Gs,de]at h;done)
 ·cases pl
  ·simp only[D.c7,de]at h
   rw[h.2];exact hd
  ·cases d<;>first|exact h.elim|rfl
theorem Zj0{ks:List Nat}:∀{l:List D} {j:Nat},(D.jE ks l).getD j .dead=(l.getD j .dead).fg ks
 |[],_=>rfl
 |_::_,0=>rfl
 |_::l,j+1=>Zj0 (l:=l) (j:=j)
theorem Zas(ks:List Nat)(row:Row)(i off:Nat):((row.kill ks).es.get i).getD off .dead=(row.es.get i).getD off .dead\/((row.kill ks).es.get i).getD off .dead=((row.es.get i).getD off .dead).fg ks:=by
 unfold Row.kill
 split
 ·rename_i ty sz e
  cases i with
  |zero=>exact .inr Zj0
  |succ i=>exact .inl rfl
 ·exact .inl rfl
theorem Zc7{pl:Bool}{ks:List Nat}{e e2:List D}(he:∀j,e2.getD j .dead=e.getD j .dead\/e2.getD j .dead=(e.getD j .dead).fg ks):∀{dh:List rT} {off:Nat} {ds:List D},Fb pl e dh off (λx=>x=ds)->ds.all GL=true->Fb pl e2 dh off λx=>x=ds
 |[],_,_,h,_=>h
 |t ::ts,off,ds,h,hd=>by
  simp only[Fb]at h⊢
  obtain⟨d,h1,h2⟩:=Z3w h
  obtain⟨ds1,h3,h4⟩:=Qi h1
  subst h3
  simp only[hJ,aE]at hd
  have hc:=h2 (λx=>x=d) rfl
  have e:e2.getD off .dead=e.getD off .dead:=by
   rcases he off with e|e
   ·exact e
   ·rw[e];exact Zh hc (Z6w hd.1)
  rw[e]
  refine h2 _ ?_
  obtain⟨ds3,h5,h6⟩:=Qi (Zc7 he (h4 (λx=>x=ds1) rfl) hd.2)
  exact h6 _ (by rw[h5])
theorem Zs7{v:D}{ks:List Nat}(h:wA pl ti (row.es.get i) off λx=>x=v)(hv:rj v=true)(hk:v.fg ks=v):wA pl ti ((row.kill ks).es.get i) off λx=>x=v:=by
 unfold wA at h⊢
 cases hg:ti.kind.isAgg with
 |true=>
  simp only[hg]at h⊢
  obtain⟨ds,h1,h2⟩:=Qi h
  rw[<-h1]at hv⊢
  have hd:ds.all GL=true:=hv
  have:=Zc7 (e2:=(row.kill ks).es.get i) (ks:=ks) (λj=>Zas ks row i j) (h2 (λx=>x=ds) rfl) hd
  obtain⟨ds2,h3,h4⟩:=Qi this
  exact h4 _ (by rw[h3])
 |false=>
  simp only[hg]at h⊢
  split at h
  ·rename_i y hy
   have e:((row.kill ks).es.get i).getD off .dead=(row.es.get i).getD off .dead:=by
    rcases Zas ks row i off with e|e
    ·exact e
    ·rw[e];exact Zh h hk
   rw[e];exact h
  ·exact h.elim
theorem Z6z{pl:Bool}{ti:TI}{i off:Nat}{v:D}(hv:rj v=true):∀{L:List (List Nat)} {row:Row},(∀kk∈L,v.fg kk=v)->(wA pl ti (row.es.get i) off λx=>x=v)->wA pl ti ((L.foldl (λr k=>Row.kill k r) row).es.get i) off λx=>x=v
 |[],_,_,h=>h
 |k::L,row,hL,h=>Z6z hv (L:=L) (row:=row.kill k) (λkk hk=>hL kk (List.mem_cons_of_mem _ hk)) (Zs7 h hv (hL k (fH ..)))
theorem Zam:∀(L:List (List Nat)) (row:Row),(L.foldl (λr k=>Row.kill k r) row).box=row.box/\(L.foldl (λr k=>Row.kill k r) row).sz=row.sz
 |[],_=>⟨rfl,rfl⟩
 |k::L,row=>by
  obtain⟨k1,k2,k3,k4⟩:=wZ k row
  obtain⟨h1,h2⟩:=Zam L (row.kill k)
  exact⟨h1.trans k1,h2.trans k3⟩
theorem Zzf{R R2:Rows}{v:D}{L:List (List Nat)}(h:Aw T t (.ptr r i off) R λd' R'=>d'=v/\R'=R)(hv:rj v=true)(hL:∀kk∈L,v.fg kk=v)(hr:R.getD r none=some row)(wv:R2.getD r none=some (L.foldl (λr k=>Row.kill k r) row)):
 Aw T t (.ptr r i off) R2 λd' R'=>d'=v/\R'=R2:=by
 obtain⟨s1,s2⟩:=Zam L row
 unfold Aw at h⊢
 cases hT:T.get t with
 |none=>simp only[hT]at h
 |some ti=>
  simp only[hT,hr]at h
  simp only[hT,wv]
  obtain⟨box,ty,sz,es⟩:=row
  simp only at h s1 s2
  generalize c6:L.foldl (λr k=>Row.kill k r) (⟨box,ty,sz,es⟩:Row)=jS at s1 s2⊢
  obtain⟨S1,ty2,sz2,es2⟩:=jS
  simp only at s1 s2⊢
  subst s1;subst s2
  simp only[de]at h⊢
  refine⟨h.1,?_⟩
  have hx:wA (!S1) ti (es.get i) off λx=>x=v:=by
   obtain⟨d,h1,h2⟩:=Xg h.2
   exact h2 _ h1.1
  have:=Z6z (L:=L) (row:=⟨S1,ty,sz2,es⟩) hv hL hx
  rw[c6]at this
  obtain⟨d,h1,h2⟩:=Xg this
  exact h2 _ ⟨h1,by first|trivial|rfl⟩
theorem Zlk(h:Iy T t (.ptr r i off) d R K):
 ∃R',K .dead R'/\(∀r',r'≠r->R'.getD r' none=R.getD r' none)/\Iy T t (.ptr r i off) d R λd' R2=>d'=.dead/\R2=R':=by
 unfold Iy at h
 cases hT:T.get t with
 |none=>simp only[hT]at h
 |some ti=>
  simp only[hT]at h
  cases hr:R.getD r none with
  |none=>simp only[hr]at h
  |some row=>
   obtain⟨box,ty,sz,es⟩:=row
   simp only[hr,de]at h
   obtain⟨h0,h⟩:=h
   have wC:∀(x:Option Row) (r':Nat),r'≠r->(R.set r x).getD r' none=R.getD r' none:=λx r' h=>by
    simp only[aV,List.getElem?_set_ne (Ne.symm h)]
   cases box with
   |true=>
    simp only[D.ff,nP]at h
    refine⟨_,h,wC _,?_⟩
    unfold Iy
    simp only[hT,hr,de,D.ff,nP]
    exact⟨h0,by simp⟩
   |false=>
    simp only[nP]at h
    refine⟨_,h.2,wC _,?_⟩
    unfold Iy
    simp only[hT,hr,de,nP]
    exact⟨h0,h.1,by simp⟩
structure Xh(P:Program)(o:Oper)(row:Row)(arr:Array Value):Prop where
 box:row.box=true
 sz:0<row.sz
 cells:∃e,row.es=.gen [e]/\e.length=row.sz/\arr.size=row.sz/\∀(c:Ctx) (w:World),lg c w e arr 0
 run:∀(ev:Operand->Value) (w:World),(execOp ev o).run P w=.ok (.value (.pointer (some ⟨w.heap.size,0,none⟩))) (w.alloc (.cells arr row.ty))
theorem Zzo(hT:jC P T)(ho:o.op=.alloc t){k:TK}{sz b:Nat}{cs:List rT}{ds:List D}{e:Bool}(ht:T.get t=some ⟨k,sz,b,cs,some ds,e⟩)(h0:0<sz)(hl:ds.length=sz):∃arr,Xh P o ⟨true,t,sz,.gen [ds]⟩ arr:=by
 obtain⟨i,u,hi,hu,hz,_,_,_,hzero⟩:=Ie hT ht
 have hb:∀(c:Ctx) (w:World),W6 c w ⟨true,t,sz,.gen [ds]⟩ u.cells:=λc w=>Zru h0 hl (KG hz c w)
 have ga:u.cells.size=sz:=by have:=Nx hz;simp at this;omega
 refine⟨u.cells,⟨rfl,h0,⟨ds,rfl,hl,ga,λc w=>?_⟩,λev w=>?_⟩⟩
 ·have:=(hb c w).2
  simp only[if_true]at this
  obtain⟨e',h1,_,_,h4⟩:=this
  cases h1;exact h4
 ·simp only[execOp,ho,Instr.alloc,Sem.run_bind,hzero,Result.andThen_ok,Z3j,Sem.run_pure]
structure KV(P:Program)(G:List bd)(o:Oper)(env:List (Nat×D))(R:Rows)(ks:List Nat)(val:D)(R':Rows):Prop where
 ld:∀t a r ii off,o.guard=none->o.op=.load t (.tmp a)->look env a=.ptr r ii off->ks=[]/\R'=R/\(∃row,R.getD r none=some row)/\(∀(ev:Operand->D) (R2:Rows),ev (.tmp a)=.ptr r ii off->R2.getD r none=R.getD r none->rC P o ev R2 val R2)/\∀(ev:Operand->D) (R2:Rows) row (L:List (List Nat)),rj val=true->(∀kk∈L,val.fg kk=val)->ev (.tmp a)=.ptr r ii off->R.getD r none=some row->R2.getD r none=some (L.foldl (λr k=>Row.kill k r) row)->rC P o ev R2 val R2
 st:∀t b x r ii off,o.guard=none->o.op=.store t (.tmp b) x->look env b=.ptr r ii off->ks=[]/\∀r',r'≠r->R'.getD r' none=R.getD r' none
 pu:∀q,o.guard=none->mi env o.op=some q->ks=[]/\R'=R/\∀(ev:Operand->D) (R2:Rows),(∀x∈o.op.operands,ev x=cw env x)->rC P o ev R2 val R2
 cl:∀f args dh,o.guard=none->o.op=.call ⟨.value (.func f),args,dh⟩->(pK G f=none/\CE G f=false)->ks=[]
 al:∀t,o.guard=none->o.op=.alloc t->ks=[]/\∃row arr,Xh P o row arr/\val=.ptr R.length 0 0/\R'=R++[some row]
 ap2:∀args dh,o.guard=none->o.op=.call ⟨.builtin .append,args,dh⟩->∀r row,R.getD r none=some row->da r ks=false->R'.getD r none=some (row.kill ks)
 ap:∀args dh x l,o.guard=none->o.op=.call ⟨.builtin .append,args,dh⟩->args.toList=.tmp x::l->KW (look env x)=true->ks=[]/\∀r row,R.getD r none=some row->R'.getD r none=some row
theorem Bz{a:Nat}:∀{l:List Operand},a∈mz l↔Operand.tmp a∈l
 |[]=>by simp[mz]
 |x::l=>by cases x<;>simp[mz,Bz (l:=l)]
theorem Zsx(h:sk op=some q){a:Nat}(ha:Operand.tmp a∈op.operands):a∈q:=by
 unfold sk at h
 split at h
 ·cases h;rw[Bz];simpa[Op.operands]using ha
 ·cases h;rw[Bz];simpa[Op.operands]using ha
 ·cases h;rw[Bz];simpa[Op.operands]using ha
 ·cases h;rw[Bz];simpa[Op.operands]using ha
 ·cases h;rw[Bz];simpa[Op.operands]using ha
 ·split at h
  ·cases h
  ·cases h;rw[Bz];simpa[Op.operands]using ha
 ·cases h
theorem Zlj(h:sk op=some q):sN G op=false/\Hf op=false/\(∀t x,op≠.load t x)/\(∀t x y,op≠.store t x y)/\∀c,op≠.call c:=by
 unfold sk at h
 split at h<;>first|exact⟨rfl,rfl,λ_ _ h=>(by cases h),λ_ _ _ h=>(by cases h),λ_ h=>(by cases h)⟩|cases h
theorem qY(hq:sk op=some q)(h:gx T op ev R K):
 ∃val,K val R/\∀(ic:Operand->D) (R2:Rows),(∀x∈op.operands,ic x=ev x)->gx T op ic R2 λd R'=>d=val/\R'=R2:=by
 unfold sk at hq
 split at hq
 ·rename_i x
  simp only[gx,D.c7]at h⊢
  exact⟨_,h,λic R2 he=>⟨he x (by simp[Op.operands]),trivial⟩⟩
 ·rename_i x
  simp only[gx,D.c7]at h⊢
  exact⟨_,h,λic R2 he=>⟨he x (by simp[Op.operands]),trivial⟩⟩
 ·rename_i x n
  simp only[gx]at h⊢
  split at h
  ·rename_i ds Fc
   simp only[de,D.c7]at h
   refine⟨_,h.2,λic R2 he=>?_⟩
   rw[he x (by simp[Op.operands]),Fc]
   simp only[de,D.c7]
   exact⟨h.1,trivial,trivial⟩
  ·exact h.elim
 ·rename_i x
  simp only[gx]at h⊢
  split at h
  ·rename_i hx
   refine⟨_,h,λic R2 he=>?_⟩
   rw[he x (by simp[Op.operands]),hx]
   simp
  ·rename_i hx
   refine⟨_,h,λic R2 he=>?_⟩
   rw[he x (by simp[Op.operands]),hx]
   simp
  ·exact h.elim
 ·rename_i t x f
  simp only[gx]at h⊢
  split at h
  ·simp only[de]at h⊢
   obtain⟨h0,h⟩:=h
   split at h
   ·rename_i hx
    refine⟨_,h,λic R2 he=>⟨h0,?_⟩⟩
    rw[he x (by simp[Op.operands]),hx]
    simp
   ·rename_i hx
    refine⟨_,h,λic R2 he=>⟨h0,?_⟩⟩
    rw[he x (by simp[Op.operands]),hx]
    simp
   ·exact h.elim
  ·exact h.elim
 ·rename_i t len parts
  simp only[gx,IK]at h⊢
  cases hl:WU t len
  rotate_left
  ·simp only[hl]at hq;cases hq
  simp only[hl,AT]at h⊢
  obtain⟨val,h1,h2⟩:=Zsp h
  exact⟨val,h1,λic R2 he=>h2 ic R2 λp hp=>he p.2 (by simp[Op.operands];exact⟨p.1,by simpa using hp⟩)⟩
 ·cases hq
theorem xy(hq:sk o.op=some q){K:St->Prop}(h:mq T G N M o st K):gx T o.op (cw st.env) st.rows λd R=>st.put N o.dst d R K:=by
 obtain⟨dst,op,type,pos,after,guard⟩:=o
 simp only at hq⊢
 unfold sk at hq
 split at hq<;>first|exact h|cases hq
theorem xaC{op:BinOp}{x y:D}{K:D->Prop}(h:tI T op t x y K):∃val,K val/\∀K',K' val->tI T op t x y K':=by
 unfold tI at h⊢
 split at h
 ·split at h
  ·simp only[de]at h⊢;exact⟨_,h.2,λK' h'=>⟨h.1,h'⟩⟩
  ·simp only[de]at h⊢;exact⟨_,h.2,λK' h'=>⟨h.1,h'⟩⟩
  ·rename_i n1 n2
   simp only[de]at h⊢
   obtain⟨h1,h⟩:=h
   unfold W3 at h⊢
   split at h<;>first|exact⟨_,h,λK' h'=>⟨h1,h'⟩⟩|(simp only[de]at h⊢;exact⟨_,h.2,λK' h'=>⟨h1,h.1,h'⟩⟩)|exact h.elim
 ·split at h<;>first|exact⟨_,h,λK' h'=>h'⟩|(simp only[de]at h⊢;exact⟨_,h.2,λK' h'=>⟨h.1,h'⟩⟩)|exact h.elim
 ·split at h
  ·split at h<;>first|exact⟨_,h,λK' h'=>h'⟩|exact h.elim
  ·exact h.elim
 ·split at h
  ·simp only[de]at h⊢
   obtain⟨h1,h⟩:=h
   split at h<;>first|exact⟨_,h,λK' h'=>⟨h1,h'⟩⟩|exact h.elim
  ·exact h.elim
 ·exact h.elim
theorem xY{s d:TypeId}{x:D}{K:D->Prop}(h:Zj T s d x K):∃val,K val/\∀K',K' val->Zj T s d x K':=by
 unfold Zj at h⊢
 split at h
 ·split at h
  ·exact⟨_,h,λK' h'=>h'⟩
  ·exact h.elim
 ·split at h
  ·exact⟨_,h,λK' h'=>h'⟩
  ·exact h.elim
 ·exact h.elim
theorem Zjl{place:Nat->Option (Nat×Nat)}{ev:Operand->D}:∀{parts:List (Nat×Operand)} {cs:List D} {K:List D->Prop},Gy place ev parts cs K->∃l,K l/\∀(ic:Operand->D) (K':List D->Prop),(∀p∈parts,ic p.2=ev p.2)->K' l->Gy place ic parts cs K'
 |[],cs,K,h=>by
  simp only[Gy,D.ff]at h⊢
  exact⟨_,h,λic K' _ h'=>h'⟩
 |(i,x)::ps,cs,K,h=>by
  simp only[Gy]at h⊢
  split at h
  ·rename_i off n hp
   simp only[de]at h
   obtain⟨h1,h⟩:=h
   obtain⟨l,g1,g2⟩:=Zjl h
   refine⟨l,g1,λic K' he h'=>?_⟩
   have hx:=he (i,x) (by simp)
   simp only at hx
   simp only[hx,de]
   exact⟨h1,g2 ic K' (λp hpp=>he p (by simp[hpp])) h'⟩
  ·exact h.elim
theorem zy{parts:List (Nat×Operand)}(h:NM T t parts ev R K):∃val,K val R/\∀(ic:Operand->D) (R2:Rows),(∀p∈parts,ic p.2=ev p.2)->NM T t parts ic R2 λd R'=>d=val/\R'=R2:=by
 unfold NM at h⊢
 split at h
 ·simp only[de]at h⊢
  obtain⟨h1,h⟩:=h
  obtain⟨l,g1,g2⟩:=Zjl h
  exact⟨_,g1,λic R2 he=>⟨h1,g2 ic _ he (by simp)⟩⟩
 ·simp only[de]at h⊢
  obtain⟨h1,h⟩:=h
  obtain⟨l,g1,g2⟩:=Zjl h
  exact⟨_,g1,λic R2 he=>⟨h1,g2 ic _ he (by simp)⟩⟩
 ·exact h.elim
theorem NS{x:D}{lo hi:Option Operand}(h:NL T t x lo hi ev R K)(hx:GL x=true):∃val,K val R/\∀(ic:Operand->D) (R2:Rows),(∀y,lo=some y->ic y=ev y)->(∀y,hi=some y->ic y=ev y)->NL T t x lo hi ic R2 λd R'=>d=val/\R'=R2:=by
 have S2:∀(x:Option Operand) (n:Int) (ic:Operand->D),(∀y,x=some y->ic y=ev y)->sE x ic n=sE x ev n:=λx n ic he=>by
  unfold sE
  cases x with
  |none=>rfl
  |some y=>simp only[he y rfl]
 unfold NL at h⊢
 split at h
 all_goals cases x<;>first|exact h.elim|(cases hx;done)|skip
 all_goals
  simp only at h
  split at h
  ·rename_i l hh e1 e2
   simp only[de]at h
   refine⟨_,h.2,λic R2 he1 he2=>?_⟩
   simp only[S2 _ _ ic he1,S2 _ _ ic he2,e1,e2,de]
   exact⟨h.1,trivial,trivial⟩
  ·exact h.elim
theorem yy{env:List (Nat×D)}(hq:mi env op=some q)(h:gx T op (cw env) R K):
    ∃val,K val R/\ ∀(ic:Operand->D) (R2:Rows),(∀x∈op.operands,ic x=cw env x)->gx T op ic R2 λd R'=>d=val/\R'=R2:=by
  unfold mi at hq
  split at hq
  . rename_i q' hp;exact qY hp h
  . split at hq
    . rename_i t parts hn
      simp only[gx]at h⊢
      obtain⟨val,g1,g2⟩:=zy h
      exact⟨val,g1,λic R2 he=>g2 ic R2 λp hp=>he p.2 (by simp [Op.operands];exact⟨p.1,by simpa using hp⟩)⟩
    . rename_i op' t x y ty hn
      simp only[gx]at h⊢
      obtain⟨val,g1,g2⟩:=xaC h
      refine⟨val,g1,λic R2 he=> ?_⟩
      rw[he x (by simp [Op.operands]),he y (by simp [Op.operands])]
      exact g2 _ (by simp)
    . rename_i op' t x hn
      simp only[gx]at h⊢
      split at h
      all_goals first
        |exact h.elim
        | (rename_i hx
           refine⟨_,h,λic R2 he=> ?_⟩
           rw[he x (by simp [Op.operands]),hx]
           simp)
    . rename_i s d x hn
      simp only[gx]at h⊢
      obtain⟨val,g1,g2⟩:=xY h
      refine⟨val,g1,λic R2 he=> ?_⟩
      rw[he x (by simp [Op.operands])]
      exact g2 _ (by simp)
    . rename_i s x f hn
      simp only[gx]at h⊢
      split at h
      . split at h
        . rename_i cs ti hx ht
          simp only[de]at h
          obtain⟨h1,h⟩:=h
          split at h
          . rename_i DL
            simp only[D.ff]at h
            refine⟨_,h,λic R2 he=> ?_⟩
            simp only[he x (by simp [Op.operands]),hx,ht,de,DL,D.ff]
            exact⟨h1,trivial,trivial⟩
          . rename_i DL
            simp only[de,D.c7]at h
            refine⟨_,h.2,λic R2 he=> ?_⟩
            simp only[he x (by simp [Op.operands]),hx,ht,de,DL,D.c7]
            exact⟨h1,h.1,trivial,trivial⟩
        . exact h.elim
      . exact h.elim
    . rename_i t x y hn
      simp only[gx]at h⊢
      split at h
      . rename_i ht hx hy
        simp only[de]at h
        refine⟨_,h.2,λic R2 he=> ?_⟩
        simp only[he x (by simp [Op.operands]),he y (by simp [Op.operands]),hx,hy,ht,de]
        exact⟨h.1,trivial,trivial⟩
      . rename_i ht hx hy
        simp only[de]at h
        obtain⟨h1,h⟩:=h
        split at h
        . rename_i AL
          refine⟨_,h.2,λic R2 he=> ?_⟩
          simp only[he x (by simp [Op.operands]),he y (by simp [Op.operands]),hx,hy,ht,de,AL]
          exact⟨h1,h.1,trivial,trivial⟩
        . rename_i AL
          refine⟨_,h.2,λic R2 he=> ?_⟩
          simp only[he x (by simp [Op.operands]),he y (by simp [Op.operands]),hx,hy,ht,de,AL]
          exact⟨h1,h.1,trivial,trivial⟩
        . exact h.elim
      . exact h.elim
    . rename_i t x y z hn
      split at hq
      . rename_i str hx
        simp only[gx,hx]at h⊢
        obtain⟨val,g1,g2⟩:=NS h rfl
        refine⟨val,g1,λic R2 he=> ?_⟩
        rw[he x (by simp [Op.operands]),hx]
        exact g2 ic R2 (λu hu=>he u (by cases hu;simp [Op.operands])) (λu hu=>he u (by cases hu;simp [Op.operands]))
      . rename_i sz es fr hx
        simp only[gx,hx]at h⊢
        obtain⟨val,g1,g2⟩:=NS h rfl
        refine⟨val,g1,λic R2 he=> ?_⟩
        rw[he x (by simp [Op.operands]),hx]
        exact g2 ic R2 (λu hu=>he u (by cases hu;simp [Op.operands])) (λu hu=>he u (by cases hu;simp [Op.operands]))
      . cases hq
    . rename_i t x y hn
      split at hq
      . rename_i str hx
        simp only[gx,hx]at h⊢
        obtain⟨val,g1,g2⟩:=NS h rfl
        refine⟨val,g1,λic R2 he=> ?_⟩
        rw[he x (by simp [Op.operands]),hx]
        exact g2 ic R2 (λu hu=>he u (by cases hu;simp [Op.operands])) (λu hu=>he u (by cases hu))
      . rename_i sz es fr hx
        simp only[gx,hx]at h⊢
        obtain⟨val,g1,g2⟩:=NS h rfl
        refine⟨val,g1,λic R2 he=> ?_⟩
        rw[he x (by simp [Op.operands]),hx]
        exact g2 ic R2 (λu hu=>he u (by cases hu;simp [Op.operands])) (λu hu=>he u (by cases hu))
      . cases hq
    . rename_i t x y hn
      split at hq
      . rename_i str hx
        simp only[gx,hx]at h⊢
        obtain⟨val,g1,g2⟩:=NS h rfl
        refine⟨val,g1,λic R2 he=> ?_⟩
        rw[he x (by simp [Op.operands]),hx]
        exact g2 ic R2 (λu hu=>he u (by cases hu)) (λu hu=>he u (by cases hu;simp [Op.operands]))
      . rename_i sz es fr hx
        simp only[gx,hx]at h⊢
        obtain⟨val,g1,g2⟩:=NS h rfl
        refine⟨val,g1,λic R2 he=> ?_⟩
        rw[he x (by simp [Op.operands]),hx]
        exact g2 ic R2 (λu hu=>he u (by cases hu)) (λu hu=>he u (by cases hu;simp [Op.operands]))
      . cases hq
    . rename_i t x y hn
      split at hq
      . rename_i sz es fr hx
        simp only[gx,hx]at h⊢
        split at h
        . rename_i k n hy
          unfold W5 at h⊢
          split at h
          . rename_i ht
            simp only[de]at h
            refine⟨_,h.2,λic R2 he=> ?_⟩
            simp only[he x (by simp [Op.operands]),he y (by simp [Op.operands]),hx,hy,ht,de]
            exact⟨h.1,trivial,trivial⟩
          . simp only[de]at h
            exact h.2.elim
          . exact h.elim
        . exact h.elim
      . cases hq
    . rename_i t x hn
      split at hq
      . rename_i sz es i off hx
        simp only[gx,hx]at h⊢
        unfold Aw at h⊢
        split at h
        . exact h.elim
        . rename_i ti ht
          simp only[de]at h
          obtain⟨d,g1,g2⟩:=Xg h.2
          refine⟨d,g1,λic R2 he=> ?_⟩
          simp only[he x (by simp [Op.operands]),hx,ht,de]
          exact⟨h.1,g2 _ (by simp)⟩
      . cases hq
    . rename_i args dh hn
      split at hq
      . rename_i x gb
        have hxm:x∈(Op.call {callee:= .builtin .len,args:=args,argTypes:=dh}).operands:=by simp [Op.operands,Call.operands];rw[<-hZ,gb];simp
        simp only[gx,gb]at h⊢
        split at h
        . rename_i y t e1 e2
          cases e1
          rw[e2]at*
          split at hq
          . rename_i str hx
            simp only[hx]at h⊢
            unfold tN at h⊢
            split at h
            . simp only at h
              exact⟨_,h,λic R2 he=>by simp only[he x hxm,hx];simp⟩
            . exact h.elim
            . exact h.elim
          . rename_i sz es fr hx
            simp only[hx]at h⊢
            unfold tN at h⊢
            split at h
            . exact h.elim
            . simp only at h
              exact⟨_,h,λic R2 he=>by simp only[he x hxm,hx];simp⟩
            . exact h.elim
          . cases hq
        . exact h.elim
      . cases hq
    . cases hq
theorem Zc2{env:List (Nat×D)}(h:mi env op=some q){a:Nat}(ha:Operand.tmp a∈op.operands):a∈q:=by
 unfold mi at h
 split at h
 ·cases h;exact Zsx (by assumption) ha
 ·split at h
  all_goals first
   |(cases h;done)
   |(cases h;rw[Bz];simpa[Op.operands]using ha)
   |(split at h<;>first|(cases h;done)|(cases h;rw[Bz];simpa[Op.operands]using ha))
   |skip
  split at h
  ·rename_i x hx
   have jV:Operand.tmp a=x:=by
    simp[Op.operands,Call.operands]at ha
    rw[<-hZ,hx]at ha
    simpa using ha
   split at h<;>first|(cases h;done)|(cases h;rw[Bz,jV];simp)
  ·cases h
theorem Z9d{env:List (Nat×D)}(h:mi env op=some q):sN G op=false/\Hf op=false/\(∀t x y,op≠.store t x y)/\(∀f args dh,op≠.call ⟨.value (.func f),args,dh⟩)/\∀t,op≠.alloc t:=by
 unfold mi at h
 split at h
 ·rename_i q' hp
  obtain⟨h1,h2,h3,h4,h5⟩:=Zlj (G:=G) hp
  exact⟨h1,h2,h4,λ_ _ _=>h5 _,λt e=>by rw[e]at hp;cases hp⟩
 ·split at h<;>first|(cases h;done)|exact⟨rfl,rfl,λ_ _ _ h=>(by cases h),λ_ _ _ h=>(by cases h),λ_ h=>(by cases h)⟩
theorem Zyl(hq:mi st.env o.op=some q){K:St->Prop}(h:mq T G N M o st K):gx T o.op (cw st.env) st.rows λd R=>st.put N o.dst d R K:=by
  obtain⟨dst,op,type,pos,after,guard⟩:=o
  simp only at hq⊢
  unfold mi at hq
  split at hq
  . rename_i q' hp
    exact xy (o:=⟨dst,op,type,pos,after,guard⟩) hp h
  . split at hq
    all_goals first
      |(cases hq;done)
      |exact h
      |skip
    . rename_i op' t x y ty hn
      unfold mq at h
      simp only at h
      split at h
      . rename_i hx hy
        rw[hx]at hq;cases hq
      . rename_i hx hy
        rw[hx]at hq;cases hq
      . exact h
    . rename_i s d x hn
      unfold mq at h
      simp only at h
      split at h
      . exfalso
        unfold wY at h
        split at h
        . split at h
          . rename_i he
            split at hq
            . rename_i hx;rw[hx]at he;cases he
            . rename_i hx;rw[hx]at he;cases he
            . cases hq
          . exact h
        . exact h
      . exact h
theorem Zko(h:KW d=true):wJ d=true:=by cases d<;>first|rfl|cases h
theorem Zcx{ks:List Nat}{d p:D}(hp:wJ p=true)(h:d.ko ks=p):d=p:=by
 subst h
 cases d<;>first
  |rfl
  |(simp only[D.ko,D.kill,D.fg]at hp⊢;split at hp<;>first|(cases hp;done)|simp_all)
  |(simp only[D.ko,D.kill,wJ]at hp⊢;rw[Qr6 hp])
  |(simp[D.ko,wJ]at hp;done)
theorem Zx2{env mO:List (Nat×D)}(h:mi env op=some q)(hb: ∀a∈q,wJ (look env a)=true->look mO a=look env a):mi mO op=some q:=by
  have one: ∀(x:Operand),(∀a,x= .tmp a->a∈q)->wJ (cw env x)=true->cw mO x=cw env x:=λx hx hs=>by
    cases x with
    |tmp a=>exact hb a (hx a rfl) hs
    |_=>rfl
  unfold mi at h⊢
  split at h
  . exact h
  . split at h
    all_goals first
      |(cases h;done)
      |exact h
      |skip
    all_goals
      split at h
      all_goals first
        |(cases h;done)
        | (rename_i hx
           cases h
           first
             |(have:=one _ (λa e=>by rw[Bz,<-e];exact fH) (by rw[hx];rfl);rw[this,hx])
             |(have:=one _ (λa e=>by rw[Bz,<-e];simp) (by rw[hx];rfl);rw[this,hx]))
        |skip
    split at h
    all_goals first
      |(cases h;done)
      | (rename_i hx
         cases h
         have:=one _ (λa e=>by rw[Bz,<-e];exact fH) (by rw[hx];rfl);rw[this,hx])
theorem qz{t tx:TypeId}{x y:D}{K:List Nat->D->Rows->Prop}(h:Zx T M t tx x y R K):
 Zx T M t tx x y R λks d R'=>((KW x=true->ks=[]/\∀r row,R.getD r none=some row->R'.getD r none=some row)/\∀r row,R.getD r none=some row->da r ks=false->R'.getD r none=some (row.kill ks))/\K ks d R':=by
 have go:∀{e sz me:Nat} {KX:List Nat} {es ys:ag},(KW x=true->KX=[])->DB e sz me R KX es ys K->DB e sz me R KX es ys λks d R'=>((KW x=true->ks=[]/\∀r row,R.getD r none=some row->R'.getD r none=some row)/\∀r row,R.getD r none=some row->da r ks=false->R'.getD r none=some (row.kill ks))/\K ks d R':=by
  intro e sz me KX es ys hx h
  simp only[DB,de,nP]at h⊢
  have key:∀r row,R.getD r none=some row->da r KX=false->(Qu KX R 0++[some (⟨false,e,sz,es.app ys⟩:Row)]).getD r none=some (row.kill KX):=λr row hr hm=>by
   have hl:r<R.length:=by
    by_cases hh:r<R.length
    ·exact hh
    ·simp only[aV,aJ (show R.length<=r by omega)]at hr;cases hr
   rw[Qtg (by rw[Kw];exact hl),Sk,hr,Nat.zero_add,hm]
   simp
  refine⟨h.1,⟨λe=>⟨hx e,λr row hr=>?_⟩,key⟩,h.2⟩
  have:=key r row hr (by rw[hx e];rfl)
  rw[this,hx e,Zb9]
 unfold Zx at h⊢
 split at h
 ·split at h
  ·split at h
   ·rename_i kf
    simp only[de]at h⊢
    refine⟨h.1,?_⟩
    have h:=h.2
    cases x<;>first|(exact h.elim;done)|(exact go (λ_=>rfl) h;done)|skip
    all_goals
     (try simp only at h⊢)
     split at h
     ·exact⟨h.1,go (λe=>by cases e) h.2⟩
     ·exact h.elim
   ·exact h.elim
  ·exact h.elim
 ·exact h.elim
theorem Zyz(hT:jC P T)(hG:jU P G){l:List Oper}{K:St->Prop}(h:mG T G N M ops (o::l) st K):
    ∃ks val R' iV,(∀t,look iV t=look (sL ks st.env) t)/\(∀t,o.dst=some t->t<N)/\oc P G M ops o st.env st.rows ks val R'/\mG T G N M ops l ⟨sM iV o.dst val,R'⟩ K/\KV P G o st.env st.rows ks val R':=by
  by_cases hL: ∃t a r ii off,o.guard=none/\o.op= .load t (.tmp a)/\look st.env a= .ptr r ii off
  . obtain⟨t,a,r,ii,off,hg,ho,ha⟩:=hL
    simp only[mG,hg,mq,ho,gx,cw,ha]at h
    obtain⟨d,h1,h2,h3⟩:=Zpu h
    obtain⟨g1,g2⟩:=pw h1
    have hN: ∀(ev:Operand->D) (R2:Rows),ev (.tmp a)= .ptr r ii off->R2.getD r none=st.rows.getD r none->rC P o ev R2 d R2:=λev R2 he wv=>by
      have:=h3 R2 wv
      obtain⟨val,R',⟨rfl,rfl⟩,hO⟩:=OD hT o ev R2 (λd' R'=>d'=d/\R'=R2) (by simp only[ho,gx,he];exact this)
      simpa [ho,Hf] using hO
    have hN2: ∀(ev:Operand->D) (R2:Rows) row (L:List (List Nat)),rj d=true->(∀kk∈L,d.fg kk=d)->ev (.tmp a)= .ptr r ii off->st.rows.getD r none=some row->R2.getD r none=some (L.foldl (λr k=>Row.kill k r) row)->rC P o ev R2 d R2:=λev R2 row L hd hL he hr wv=>by
      have:=Zzf (h3 st.rows rfl) hd hL hr wv
      obtain⟨val,R',⟨rfl,rfl⟩,hO⟩:=OD hT o ev R2 (λd' R'=>d'=d/\R'=R2) (by simp only[ho,gx,he];exact this)
      simpa [ho,Hf] using hO
    refine⟨[],d,st.rows,st.env,λt=>pq.symm,g1,?_,g2,λt' a' r' mK iY _ jI jV=> ?_,λt' b x r' mK iY _ jI=> ?_,λq _ hq=> ?_,λf args dh _ hf _=>by simp [ho]at hf,λt' _ hf=>by simp [ho]at hf,λargs dh _ hf=>by simp [ho]at hf,λargs dh x' l' _ hf=>by simp [ho]at hf⟩
    . unfold oc
      simp only[hg]
      exact BH (by rw[ho];rfl) (hN _ _ (by simp [cw,ha]) rfl)
    . rw[ho]at jI;cases jI
      rw[ha]at jV;cases jV
      exact⟨rfl,rfl,h2,hN,hN2⟩
    . rw[ho]at jI;cases jI
    . rw[ho]at hq;simp [mi,sk,cw,ha]at hq
  . by_cases hS : ∃t b x r ii off,o.guard=none/\o.op= .store t (.tmp b) x/\look st.env b= .ptr r ii off
    . obtain⟨t,b,x,r,ii,off,hg,ho,hb⟩:=hS
      simp only[mG,hg,mq,ho,gx]at h
      rw[show cw st.env (.tmp b)= .ptr r ii off by simp [cw,hb]]at h
      obtain⟨R',h1,h2,h3⟩:=Zlk h
      obtain⟨g1,g2⟩:=pw h1
      obtain⟨val,R2,⟨rfl,rfl⟩,hO⟩:=OD hT o (cw st.env) st.rows (λd' R2=>d'= .dead/\R2=R') (by simp only[ho,gx];rw[show cw st.env (.tmp b)= .ptr r ii off by simp [cw,hb]];exact h3)
      refine⟨[], .dead,R2,st.env,λt=>pq.symm,g1,?_,g2,λt' a' r' mK iY _ jI=> ?_,λt' b' x' r' mK iY _ jI su=> ?_,λq _ hq=> ?_,λf args dh _ hf _=>by simp [ho]at hf,λt' _ hf=>by simp [ho]at hf,λargs dh _ hf=>by simp [ho]at hf,λargs dh x' l' _ hf=>by simp [ho]at hf⟩
      . unfold oc
        simp only[hg]
        have hO':Fu P o (cw st.env) st.rows .dead R2:=by simpa [ho,Hf] using hO
        exact CC (by rw[ho];rfl) (λk hk=>by simp [da]at hk) hO'.toK
      . rw[ho]at jI;cases jI
      . rw[ho]at jI;cases jI
        rw[hb]at su;cases su
        exact⟨rfl,h2⟩
      . rw[ho]at hq;cases hq
    . by_cases hP : ∃q,o.guard=none/\mi st.env o.op=some q
      . obtain⟨q,hg,hq⟩:=hP
        simp only[mG,hg]at h
        have sr:=Zyl hq h
        obtain⟨val,Jap,Jaq⟩:=yy hq sr
        obtain⟨hW,hS',Ow,hnc,hna⟩:=Z9d (G:=G) hq
        have hN: ∀(ev:Operand->D) (R2:Rows),(∀x∈o.op.operands,ev x=cw st.env x)->rC P o ev R2 val R2:=λev R2 he=>by
          obtain⟨JaJ,R',⟨rfl,rfl⟩,hO⟩:=OD hT o ev R2 _ (Jaq ev R2 he)
          simpa [hS'] using hO
        obtain⟨g1,g2⟩:=pw Jap
        refine⟨[],val,st.rows,st.env,λt=>pq.symm,g1,?_,g2,λt' a' r' mK iY hg' jI jV=>(hL ⟨t',a',r',mK,iY,hg',jI,jV⟩).elim,λt' b' x' r' mK iY _ jI=>(Ow _ _ _ jI).elim,λq' _ GM=>⟨rfl,rfl,hN⟩,λf args dh _ hf _=>(hnc _ _ _ hf).elim,λt' _ hf=>(hna _ hf).elim,λargs dh _ hf=>by rw[hf]at hq;simp [mi,sk]at hq,λargs dh x' l' _ hf=>by rw[hf]at hq;simp [mi,sk]at hq⟩
        unfold oc
        simp only[hg]
        exact BH hW (hN _ _ (λ_ _=>rfl))
      . by_cases hC: ∃f args dh,o.guard=none/\o.op= .call ⟨.value (.func f),args,dh⟩/\(pK G f=none/\CE G f=false)
        . obtain⟨f,args,dh,hg,ho,mo,Ft⟩:=hC
          obtain⟨dst,op,type,pos,after,guard⟩:=o
          simp only at hg ho
          subst hg;subst ho
          simp only[mG,mq,mo,Ft]at h
          have Jf: ∀x,px G f=some x->x.pL=false:=λx hx=>by simpa [CE,hx] using Ft
          obtain⟨val,R',x,hK,hx,hO,hN⟩:=Yw (dst:=dst) (type:=type) (pos':=pos) (after:=after) (guard:=none) (dh:=dh) hG mo h
          obtain⟨g1,g2⟩:=pw hK
          refine⟨[],_,_,st.env,λt=>pq.symm,g1,?_,g2,λt' a' r' mK iY _ jI=>(by cases jI),λt' b' x' r' mK iY _ jI=>(by cases jI),λq' _ GM=>(by cases GM),λ_ _ _ _ _ _=>rfl,λt' _ hf=>(by cases hf),λargs dh _ hf=>(by cases hf),λargs dh x' l' _ hf=>(by cases hf)⟩
          unfold oc
          cases hr:x.refs with
          |nil=>exact BH (by simp only[sN,hx,hr,Jf x hx]) (hN hr)
          |cons b bs=>exact CC (by simp only[sN,hx,hr]) (λk hk=>by simp [da]at hk) hO.toK
        . by_cases hAl: ∃t,o.guard=none/\o.op= .alloc t
          . obtain⟨t,hg,ho⟩:=hAl
            obtain⟨dst,op,type,pos,after,guard⟩:=o
            simp only at hg ho
            subst hg;subst ho
            simp only[mG,mq,gx]at h
            split at h
            . rename_i ht
              simp only[de,aE,LH]at h
              obtain⟨⟨h0,hl⟩,h⟩:=h
              obtain⟨g1,g2⟩:=pw h
              obtain⟨arr,hA⟩:=Zzo (o:=⟨dst, .alloc t,type,pos,after,none⟩) hT rfl ht (lE h0) (bE hl)
              refine⟨[],_,_,st.env,λt=>pq.symm,g1,?_,g2,λt' a' r' mK iY _ jI=>(by cases jI),λt' b' x' r' mK iY _ jI=>(by cases jI),λq' _ GM=>(by cases GM),λ_ _ _ _ hf=>(by cases hf),λt' _ hf=>⟨rfl,_,arr,hA,rfl,rfl⟩,λargs dh _ hf=>(by cases hf),λargs dh x' l' _ hf=>(by cases hf)⟩
              unfold oc
              exact BH rfl (Sv λc w a hm UA ez=>⟨_,rfl,Zwa hT ht (lE h0) (bE hl) st.rows.length c w⟩)
            . exact h.elim
          by_cases hAp: ∃args dh,o.guard=none/\o.op= .call ⟨.builtin .append,args,dh⟩
          . obtain⟨args,dh,hg,ho⟩:=hAp
            obtain⟨dst,op,type,pos,after,guard⟩:=o
            simp only at hg ho
            subst hg;subst ho
            simp only[mG,mq]at h
            split at h
            . rename_i x y t tx pP ht
              have KY:args= #[x,y]:=by rw[<-bW (xs:=args),pP]
              have uX:dh= #[t,tx]:=by rw[<-bW (xs:=dh),ht]
              subst KY;subst uX
              have h':=qz h
              obtain⟨ks,R',⟨⟨Jar,DD⟩,hK⟩,hM,hr⟩:=Zvy (ty:=type) hT h'
              rw[Je]at hK
              obtain⟨h1,h2⟩:=pw hK
              refine⟨ks,_,_,_,λt=>rfl,h1,?_,h2,λt' a' r' mK iY _ jI=>(by cases jI),λt' b' x' r' mK iY _ jI=>(by cases jI),λq' _ GM=>(by cases GM),λ_ _ _ _ hf=>(by cases hf),λt' _ hf=>(by cases hf),λargs dh _ hf r row hr hm=>DD r row hr hm,λargs dh x' l' _ hf ha he=> ?_⟩
              rotate_left
              . cases hf
                have hx:x= .tmp x':=by
                  have:=congrArg List.head? ha
                  simpa using this
                subst hx
                exact Jar he
              unfold oc
              refine CC rfl hM λc w a hm hb hR ez K' Q rU=> ?_
              obtain⟨v',w',c',il,hn,ku,hv⟩:=hr c w _ _ hm hb hR (ez x (by simp [Op.operands,Call.operands])) (ez y (by simp [Op.operands,Call.operands]))
              refine Hg ?_ (rU v' w' c' hn ku hv)
              simp only[execOp,resolve,Sem.run_bind,Sem.run_pure,Result.andThen_ok,invoke,builtin]
              have:(#[x,y]:Array Operand).map a.eval= #[a.eval x,a.eval y]:=by simp
              rw[this,il];rfl
            . exact h.elim
          obtain⟨ks,val,R',iV,h0,h1,h2,h3⟩:=Yd hT hG h
          exact⟨ks,val,R',iV,h0,h1,h2,h3,λt a r ii off hg ho ha=>(hL ⟨t,a,r,ii,off,hg,ho,ha⟩).elim,λt b x r ii off hg ho hb=>(hS ⟨t,b,x,r,ii,off,hg,ho,hb⟩).elim,λq hg hq=>(hP ⟨q,hg,hq⟩).elim,λf args dh hg ho mo=>(hC ⟨f,args,dh,hg,ho,mo⟩).elim,λt hg ho=>(hAl ⟨t,hg,ho⟩).elim,λargs dh hg ho=>(hAp ⟨args,dh,hg,ho⟩).elim,λargs dh x l' hg ho ha he=>(hAp ⟨args,dh,hg,ho⟩).elim⟩
theorem S3(h:rj d=true):wJ d=true:=by cases d<;>first|rfl|exact h|cases h
theorem xz{ks:List Nat}(h:d.ko ks=.ptr r i off):d=.ptr r i off:=Zcx rfl h
theorem KZ{i a k:Nat}(h:lM ops i a=true)(hk:i<=k)(ho:ops[k]?=some o):o.dst≠some a:=by
 intro hd
 have hm:o∈ops.toList.drop i:=by
  have h1:(ops.toList.drop i)[k-i]?=some o:=by
   rw[List.getElem?_drop,show i+(k-i)=k by omega];simpa using ho
  exact gC h1
 have:=List.all_eq_true.1 h o hm
 simp[hd]at this
theorem Zxt{f:FuncId}(h:(match pK G f with|some _=>true|none=>CE G f)=false):pK G f=none/\CE G f=false:=by
 cases hg:pK G f with
 |none=>rw[hg]at h;exact⟨rfl,h⟩
 |some k=>rw[hg]at h;cases h
def K0(ops:Array Oper)(env:List (Nat×D))(i:Nat)(o:Oper)(q:List Nat):Prop:=
 (∀a∈q,lM ops i a=true/\wJ (look env a)=true)/\∀t,o.dst=some t->lM ops (i+1) t=true/\wJ (look env t)=true
theorem S4{env:List (Nat×D)}(hx:ops[i]?=some x)(hy:ops[j]?=some y)(h:NT G ops env i j=true):
 (∃t a t' b z r r' ii off mK iY,x.guard=none/\y.guard=none/\x.op=.load t (.tmp a)/\y.op=.store t' (.tmp b) z/\lM ops i a=true/\lM ops j b=true/\look env a=.ptr r ii off/\look env b=.ptr r' mK iY/\r≠r')\/
 (∃q,x.guard=none/\y.guard=none/\mi env x.op=some q/\(∀a∈q,lM ops i a=true)/\((∃t' b z r' mK iY,y.op=.store t' (.tmp b) z/\lM ops j b=true/\look env b=.ptr r' mK iY)\/∃f args dh,y.op=.call ⟨.value (.func f),args,dh⟩/\(pK G f=none/\CE G f=false)))\/
 (∃q,x.guard=none/\mi env x.op=some q/\K0 ops env i x q)\/
 (∃t a r ii off args dh x0 l,x.guard=none/\y.guard=none/\x.op=.load t (.tmp a)/\lM ops i a=true/\look env a=.ptr r ii off/\y.op=.call ⟨.builtin .append,args,dh⟩/\args.toList=.tmp x0::l/\lM ops j x0=true/\KW (look env x0)=true)\/
 (∃t a r ii off args dh td,x.guard=none/\y.guard=none/\x.op=.load t (.tmp a)/\lM ops i a=true/\look env a=.ptr r ii off/\y.op=.call ⟨.builtin .append,args,dh⟩/\x.dst=some td/\lM ops (i+1) td=true/\rj (look env td)=true):=by
 unfold NT at h
 simp only[hx,hy]at h
 split at h
 ·rename_i t a t' b z h1 h2 h3 h4
  simp only[aE]at h
  obtain⟨g1,g2,g3⟩:=h
  split at g3
  ·rename_i r ii off r' mK iY e1 e2
   refine .inl ⟨t,a,t',b,z,r,r',ii,off,mK,iY,h1,h2,h3,h4,g1,g2,e1,e2,λe=>?_⟩
   subst e
   simp at g3
  ·rename_i sz es k off r' mK iY e1 e2
   exact .inr (.inl ⟨[a],h1,h2,by rw[h3];simp[mi,sk,cw,e1,mz],λa' ha=>by simp at ha;subst ha;exact g1,.inl ⟨t',b,z,r',mK,iY,h4,g2,e2⟩⟩)
  ·cases g3
 ·rename_i op t' b z h1 h2 h4 _
  split at h
  ·rename_i q hq
   simp only[aE]at h
   obtain⟨g1,g2,g3⟩:=h
   split at g3
   ·rename_i r' mK iY e2
    exact .inr (.inl ⟨q,h1,h2,hq,λa ha=>List.all_eq_true.1 g1 a ha,.inl ⟨t',b,z,r',mK,iY,h4,g2,e2⟩⟩)
   ·cases g3
  ·cases h
 ·rename_i op f dh h1 h2 h4
  split at h
  ·cases h
  ·rename_i Jo
   have Jas:=Zxt Jo
   split at h
   ·rename_i q hq
    exact .inr (.inl ⟨q,by assumption,by assumption,hq,λa ha=>List.all_eq_true.1 h a ha,.inr ⟨_,_,_,by assumption,Jas⟩⟩)
   ·cases h
 ·rename_i op args dh h1 h2 h4 _
  split at h
  ·rename_i q hq
   simp only[aE]at h
   refine .inr (.inr (.inl ⟨q,by assumption,hq,λa ha=>?_,λt ht=>?_⟩))
   ·have:=List.all_eq_true.1 h.1 a ha
    simpa only[aE]using this
   ·have:=h.2
    simp only[ht,aE]at this
    exact this
  ·have S5:∀{d:D},wK d=true->∃r ii off,d=.ptr r ii off:=fun{d} k=>by
    cases d<;>first|(cases k;done)|exact⟨_,_,_,rfl⟩
   rcases Bool.or_eq_true_iff.1 h with h|h
   ·unfold Ed at h
    split at h
    ·rename_i t a x0 l hxo hl
     simp only[aE]at h
     obtain⟨k1,k2,k3,k4⟩:=h
     obtain⟨r,ii,off,hr⟩:=S5 k3
     exact .inr (.inr (.inr (.inl ⟨t,a,r,ii,off,dh,h1,x0,l,by assumption,by assumption,hxo,k1,hr,by assumption,hl,k2,k4⟩)))
    ·cases h
   ·unfold Ee at h
    split at h
    ·rename_i t a td hxo uH
     simp only[aE]at h
     obtain⟨k1,k2,k3,k4⟩:=h
     obtain⟨r,ii,off,hr⟩:=S5 k2
     exact .inr (.inr (.inr (.inr ⟨t,a,r,ii,off,dh,h1,td,by assumption,by assumption,hxo,k1,hr,by assumption,uH,k3,k4⟩)))
    ·cases h
 ·cases h
theorem Ztk(hy:ops[j]?=some y)(h:wM ops j=true):(∃t,y.guard=none/\y.op=.alloc t)/\∀u,y.dst=some u->∀k o',k≠j->ops[k]?=some o'->o'.dst≠some u:=by
 unfold wM at h
 simp only[hy]at h
 split at h
 ·rename_i t h1 h2
  refine⟨⟨t,h1,h2⟩,λu hu k o' hk dx hd=>?_⟩
  simp only[hu]at h
  have bc:=(Array.getElem?_eq_some_iff.1 dx).1
  have:=List.all_eq_true.1 h k (List.mem_range.2 bc)
  simp only[dx,aW,hd,aT]at this
  rcases this with this|this
  ·exact hk (bE this)
  ·simp at this
 ·cases h
theorem GN{env:List (Nat×D)}(h:S6 G ops env=true)(Lp:i<j)(hx:ops[i]?=some x)(hy:ops[j]?=some y):
 (x.apart ops y=true\/((Region.before ops).getD j 0).testBit i=true)/\((lO G x.op=true/\lO G y.op=true)\/((Region.before ops).getD j 0).testBit i=true\/NT G ops env i j=true\/((∃t,y.guard=none/\y.op=.alloc t)/\∀u,y.dst=some u->∀k o',k≠j->ops[k]?=some o'->o'.dst≠some u)):=by
 have hj:=(Array.getElem?_eq_some_iff.1 hy).1
 have h1:=List.all_eq_true.1 h j (List.mem_range.2 hj)
 simp only[aE]at h1
 have h2:=List.all_eq_true.1 h1.2 i (List.mem_range.2 Lp)
 unfold AD at h2
 simp only[hx,hy,aE,aT]at h2
 exact⟨h2.1,h2.2.elim (λg=>g.elim .inl (λg=>.inr (.inl g))) (λg=>g.elim (λg=>.inr (.inr (.inl g))) (λg=>.inr (.inr (.inr (Ztk hy g)))))⟩
theorem Zpr{env:List (Nat×D)}(h:S6 G ops env=true)(hy:ops[j]?=some y):∀e∈y.after,Region.binds .any e=true->e.on<j:=by
 have hj:=(Array.getElem?_eq_some_iff.1 hy).1
 have h1:=List.all_eq_true.1 h j (List.mem_range.2 hj)
 simp only[aE,hy]at h1
 intro e he hb
 have:=Array.all_eq_true'.1 h1.1 e he
 simp only[hb,Bool.not_true,Bool.false_or]at this
 exact lE this
theorem qaD{env:List (Nat×D)}{ks:List Nat}{val:D}{R':Rows}(hi:ops[i]?=some o)
 (hm:Mem c w) (hb:c.base<=w.heap.size) (hR:∀r,c.R r=R.getD r none) (ez:∀t∈o.looksAt ops,Rep c w (look env t) (a.tmps.getD t undef)) (hG:oc P G M ops o env R ks val R') {K:Act->World->Prop} {Q:Exit->Act->World->Prop}
 (hK:∀v w' c',(∀k,da k ks=true->M<=k)->j6 ks c w c' w'->(∀r,c'.R r=R'.getD r none)->Rep c' w' val v->K (a.put o.dst v) w'):wpOp P ops Q i K a w:=by
 have hx:∀x∈o.op.operands,Rep c w (cw env x) (a.eval x):=λx hx=>by
  cases x with
  |tmp t=>
   refine ez t ?_
   unfold Oper.looksAt
   exact fF _ (List.mem_filterMap.2 ⟨.tmp t,by simpa using hx,rfl⟩)
  |const v=>
   simp only[cw,Act.eval]
   cases hv:Zn v with
   |none=>trivial
   |some d=>exact Oy hv c w
  |global g=>trivial
  |func f=>exact Lv f
 have run:ry P G M o (cw env) R ks val R'->o.nM P a w K Q:=λhX=>hX.toK.2 c w a hm hb hR hx K Q λv w' c' h1 h2 h3=>hK v w' c' hX.toK.1 h1 h2 h3
 have skip:ks=[]->val=.dw []->R'=R->K (a.put o.dst undef) w:=λe0 e1 e2=>by
  subst e0;subst e1;subst e2
  exact hK undef w c (λk hk=>by simp[da]at hk) (mn.toK ⟨hm,ju.refl _ _,Fr.refl _ _,λb hb=>.inl hb,λr row hr v=>.inl ⟨⟨row,hr⟩,v,rfl⟩⟩) hR (UB _ _)
 unfold wpOp
 simp only[hi]
 unfold oc at hG
 cases hg:o.guard with
 |none=>
  simp only[hg]at hG
  have hw:Region.wanted o (yielded ops a.tmps)=true:=by simp[Region.wanted,hg]
  rw[if_pos hw]
  exact run hG
 |some jw=>
  obtain⟨j,want⟩:=jw
  simp only[hg]at hG
  obtain⟨g,h2,hG⟩:=hG
  have hr:=ez g (by
   unfold Oper.looksAt
   refine fK _ ?_
   simp only[hg,h2];simp)
  rcases hG with⟨b,h3,h4⟩|⟨h3,e0,e1,e2⟩
  rotate_left
  ·rw[h3]at hr
   rw[if_neg (by rw[UC (o:=o) hg h2 hr];simp)]
   exact skip e0 e1 e2
  rw[h3]at hr
  have hw:=UD (o:=o) hg h2 hr
  by_cases e:b=want
  ·rw[if_pos e]at h4
   rw[if_pos (by rw[hw];simpa using e)]
   exact run h4
  ·rw[if_neg e]at h4
   rw[if_neg (by rw[hw];simpa using e)]
   exact skip h4.1 h4.2.1 h4.2.2
structure Xi(P:Program)(G:List bd)(N M:Nat)(ops:Array Oper)(s:Nat->St)(ks:Nat->List Nat)(val:Nat->D):Prop extends Chain P G N M ops s ks val where
 nf:∀(i:Nat) (o:Oper),ops[i]?=some o->KV P G o (s i).env (s i).rows (ks i) (val i) (s (i+1)).rows
theorem Zn8{P:Program}{T:iz}(hT:jC P T){G:List bd}(hG:jU P G){N M:Nat}{ops:Array Oper}{K:St->Prop}:∀(l:List Oper) (k:Nat) (st:St),ops.toList.drop k=l->mG T G N M ops l st K->
 ∃ (s:Nat->St) (ks:Nat->List Nat) (val:Nat->D),s k=st/\K (s (k+l.length))/\(∀(i:Nat) (o:Oper),k<=i->ops[i]?=some o->oc P G M ops o (s i).env (s i).rows (ks i) (val i) (s (i+1)).rows)/\
  (∀(i:Nat) (o:Oper) (t:Nat),k<=i->ops[i]?=some o->look (s (i+1)).env t=if o.dst=some t then val i else look (sL (ks i) (s i).env) t)/\(∀(i:Nat) (o:Oper) (t:Nat),k<=i->ops[i]?=some o->o.dst=some t->t<N)/\
  (∀(i:Nat) (o:Oper),k<=i->ops[i]?=some o->KV P G o (s i).env (s i).rows (ks i) (val i) (s (i+1)).rows)
 |[],k,st,hk,h=>by
  have hlen:ops.size<=k:=by
   have:=congrArg List.length hk
   simp at this;omega
  have no:∀(i:Nat) (o:Oper),k<=i->ops[i]?=some o->False:=λi o hi ho=>by
   have:=(Array.getElem?_eq_some_iff.1 ho).1;omega
  exact⟨λ_=>st,λ_=>[],λ_=>.dead,rfl,h,λi o hi ho=>(no i o hi ho).elim,λi o t hi ho=>(no i o hi ho).elim,λi o t hi ho=>(no i o hi ho).elim,λi o hi ho=>(no i o hi ho).elim⟩
 |o ::l,k,st,hk,h=>by
  have bc:k<ops.toList.length:=by
   by_cases bc:k<ops.toList.length
   ·exact bc
   ·rw[List.drop_eq_nil_of_le (by omega)]at hk;cases hk
  rw[List.drop_eq_getElem_cons bc]at hk
  have ho:ops[k]?=some o:=by
   have:=(List.cons.inj hk).1
   rw[<-this]
   simp at bc
   simp[bc]
  obtain⟨kk,v,R',iV,h1,h2,h3,h4,h5⟩:=Zyz hT hG h
  obtain⟨s,ks,val,g1,g2,g3,g4,g5,g6⟩:=Zn8 hT hG l (k+1) _ (List.cons.inj hk).2 h4
  refine⟨λi=>if i=k then st else s i,λi=>if i=k then kk else ks i,λi=>if i=k then v else val i,by simp,?_,λi p hi hp=>?_,λi p t hi hp=>?_,λi p t hi hp hd=>?_,λi p hi hp=>?_⟩
  ·simp only[List.length_cons]
   rw[if_neg (by omega),show k+(l.length+1)=k+1+l.length by omega]
   exact g2
  ·by_cases e:i=k
   ·subst e
    rw[ho]at hp;cases hp
    simp only[if_true,show¬i+1=i by omega,if_false,g1]
    exact h3
   ·simp only[if_neg e,if_neg (show¬i+1=k by omega)]
    exact g3 i p (by omega) hp
  ·by_cases e:i=k
   ·subst e
    rw[ho]at hp;cases hp
    simp only[if_true,show¬i+1=i by omega,if_false,g1]
    cases uH:o.dst with
    |none=>simp[sM,h1]
    |some u=>simp only[sM,BF,Option.some.injEq,h1]
   ·simp only[if_neg e,if_neg (show¬i+1=k by omega)]
    exact g4 i p t (by omega) hp
  ·by_cases e:i=k
   ·subst e
    rw[ho]at hp;cases hp
    exact h2 t hd
   ·exact g5 i p t (by omega) hp hd
  ·by_cases e:i=k
   ·subst e
    rw[ho]at hp;cases hp
    simp only[if_true,show¬i+1=i by omega,if_false,g1]
    exact h5
   ·simp only[if_neg e,if_neg (show¬i+1=k by omega)]
    exact g6 i p (by omega) hp
section
variable {P:Program} {G:List bd} {N M:Nat} {ops:Array Oper} {s:Nat->St} {ks:Nat->List Nat} {val:Nat->D} (hc:Xi P G N M ops s ks val)
include hc
theorem Ff{i a r ii off:Nat}(hn:lM ops i a=true)(h:look (s ops.size).env a=.ptr r ii off):∀{k:Nat},i<=k->k<=ops.size->look (s k).env a=.ptr r ii off:=by
 intro k oK hk
 obtain⟨n,SS⟩:∃n,ops.size=k+n:=⟨ops.size-k,by omega⟩
 have:∀n k,i<=k->k+n<=ops.size->look (s (k+n)).env a=.ptr r ii off->look (s k).env a=.ptr r ii off:=by
  intro n
  induction n with
  |zero=>intro k _ _ h;exact h
  |succ n ih=>
   intro k h1 h2 h3
   have ho:ops[k]?=some ops[k]:=aU (by omega)
   have h4:=ih (k+1) (by omega) (by omega) (by rw[show k+1+n=k+(n+1) by omega];exact h3)
   rw[hc.env k _ a ho,if_neg (KZ hn h1 ho),CD]at h4
   exact xz h4
 exact this n k oK (by omega) (by rw[<-SS];exact h)
theorem Fg{i a:Nat}(hn:lM ops i a=true)(h:wJ (look (s ops.size).env a)=true):∀{k:Nat},i<=k->k<=ops.size->look (s k).env a=look (s ops.size).env a:=by
 intro k oK hk
 obtain⟨n,SS⟩:∃n,ops.size=k+n:=⟨ops.size-k,by omega⟩
 have:∀n k,i<=k->k+n<=ops.size->∀p,wJ p=true->look (s (k+n)).env a=p->look (s k).env a=p:=by
  intro n
  induction n with
  |zero=>intro k _ _ p _ h;exact h
  |succ n ih=>
   intro k h1 h2 p hp h3
   have ho:ops[k]?=some ops[k]:=aU (by omega)
   have h4:=ih (k+1) (by omega) (by omega) p hp (by rw[show k+1+n=k+(n+1) by omega];exact h3)
   rw[hc.env k _ a ho,if_neg (KZ hn h1 ho),CD]at h4
   exact Zcx hp h4
 exact this n k oK (by omega) _ h (by rw[<-SS])
theorem Zkt(h:mi (s ops.size).env op=some q)(hq:∀a∈q,lM ops i a=true)(h1:i<=k)(h2:k<=ops.size):mi (s k).env op=some q:=
 Zx2 h λa ha hs=>Fg hc (hq a ha) hs h1 h2
theorem Z4h{dt:Nat->Bool}{c:Nat}{t:Nat}:∀{n:Nat},(∀i o,i<n->ops[c+i]?=some o->o.dst=some t->dt (c+i)=false)->jv ops s val dt c n t=look (s c).env t
 |0,_=>rfl
 |n + 1,h=>by
  simp only[jv]
  rw[if_neg]
  ·exact Z4h (λi o hi=>h i o (by omega))
  ·rintro⟨g1,g2⟩
   cases hk:ops[c+n]? with
   |none=>rw[hk]at g2;cases g2
   |some o=>
    rw[hk]at g2
    rw[h n o (by omega) hk g2]at g1;cases g1
theorem Zo9{dt:Nat->Bool}{c d:Nat}{t:Nat}(hq:∀(i:Nat) (o:Oper),c<=i->i<d->ops[i]?=some o->lO G o.op=true)(hd:d<=ops.size):∀{n:Nat},c+n<=d->(∀i o,i<n->ops[c+i]?=some o->o.dst=some t->dt (c+i)=true)->jv ops s val dt c n t=look (s (c+n)).env t
 |0,_,_=>rfl
 |n +1,hn,hl=>by
  have ho:ops[c+n]?=some ops[c+n]:=aU (by omega)
  simp only[jv,ho,aW]
  rw[show c+(n+1)=(c+n)+1 by omega,hc.toChain.Fm ho (hq _ _ (by omega) (by omega) ho) t]
  by_cases ra:ops[c+n].dst=some t
  ·rw[if_pos ⟨hl n _ (by omega) ho ra,ra⟩,if_pos ra]
  ·rw[if_neg (λg=>ra g.2),if_neg ra]
   exact Zo9 hq hd (by omega) (λi o hi=>hl i o (by omega))
theorem Zi0{dt:Nat->Bool}{c d:Nat}(hq:∀(i:Nat) (o:Oper),c<=i->i<d->ops[i]?=some o->lO G o.op=true)(hd:d<=ops.size):∀{n:Nat},c+n<=d->(∀i,i<n->dt (c+i)=true\/(s (c+i+1)).rows=(s (c+i)).rows)->∀r,kS s dt c n r=(s (c+n)).rows.getD r none
 |0,_,_,r=>rfl
 |n + 1,hn,hl,r=>by
  simp only[kS]
  rw[show c+(n+1)=c+n+1 by omega]
  have hlen:=Lt hc.toChain hq hd (show c<=c+n by omega) (show c+n<=c+n+1 by omega) (by omega)
  have ih:=Zi0 hq hd (n:=n) (by omega) (λi hi=>hl i (by omega)) r
  rcases hl n (by omega)with h|h
  ·simp only[h,true_and]
   split
   ·rfl
   ·rw[ih]
    by_cases h2:r<(s (c+n)).rows.length
    ·exact(Lu hc.toChain hq hd (by omega) (by omega) (by omega) h2).symm
    ·simp only[aV]
     rw[aJ (by omega),aJ (by omega)]
  ·rw[if_neg (by rw[h];omega),ih,h]
theorem Zoa{dt:Nat->Bool}{c d:Nat}(hq:∀(i:Nat) (o:Oper),c<=i->i<d->ops[i]?=some o->lO G o.op=true)(hd:d<=ops.size){r:Nat}(hr:r<(s c).rows.length):∀{n:Nat},c+n<=d->kS s dt c n r=(s c).rows.getD r none
 |0,_=>rfl
 |n+1,hn=>by
  simp only[kS]
  have hlen:=Lt hc.toChain hq hd (show c<=c by omega) (show c<=c+n by omega) (by omega)
  rw[if_neg (by omega)]
  exact Zoa hq hd hr (by omega)
end
structure tS(w0:World)(cx:Ctx)(w:World)(b:Nat)(arr:Array Value)(ty:TypeId):Prop where
 jW:w0.heap.size<=b
 lt:b<w.heap.size
 here:w.heap[b]?=some (.cells arr ty (0,0))
 fk:¬cx.I b
 row:∀r row,cx.R r=some row->¬cx.V r->cx.ρ r≠b
theorem tS.dv{ks:List Nat}{ty:TypeId}(h:tS w0 c w b arr ty)(n:j6 ks c w c' w'):tS w0 c' w' b arr ty:=by
 refine⟨h.jW,bM h.lt n.fr.size,(n.fr.heap b h.lt fun⟨r,x,h1,h2,h3⟩=>h.row r x h1 h2 h3).trans h.here,λhb=>?_,λr row hr hv e=>?_⟩
 ·rcases n.fk b hb with g|⟨s,x,_,g1,g2,g3⟩|g
  ·exact h.fk g
  ·exact h.row s x g1 g2 g3
  ·have:=h.lt;omega
 ·rcases n.oO r row hr hv with⟨⟨x,g1⟩,g2,g3⟩|⟨s,x,_,g1,g2,g3⟩|g
  ·exact h.row r x g1 g2 (by rw[<-g3];exact e)
  ·exact h.row s x g1 g2 (by rw[<-g3];exact e)
  ·have:=h.lt;omega
theorem zz(h:o.dst≠some u):(a.put o.dst v).tmps.getD u undef=a.tmps.getD u undef:=by
 cases ho:o.dst with
 |none=>simp[Act.put]
 |some x=>
  have ia:x≠u:=λe=>h (by rw[ho,e])
  simp[Act.put,aZ ia]
theorem zY{dst:Option Tmp}(h:dst=some u)(bc:u<a.tmps.size):(a.put dst v).tmps.getD u undef=v:=by
 subst h
 simp[Act.put,aY,bc]
def NU(P:Program)(ops:Array Oper)(s:Nat->St)(val:Nat->D)(w0:World)(cx:Ctx)(w:World)(a:Act)(i b:Nat):Prop:=
 ∃ o t row arr,ops[i]?=some o/\o.guard=none/\o.op=.alloc t/\Xh P o row arr/\val i=.ptr (s i).rows.length 0 0/\(s (i+1)).rows=(s i).rows++[some row]/\tS w0 cx w b arr row.ty/\
  (∀u,o.dst=some u->a.tmps.getD u undef=.pointer (some ⟨b,0,none⟩))/\∀u,o.dst=some u->∀k o',k≠i->ops[k]?=some o'->o'.dst≠some u
theorem NU.dv{ks:List Nat}(h:NU P ops s val w0 c w a k b)(n:j6 ks c w c' w')(oK:i≠k)(ho:ops[i]?=some o):NU P ops s val w0 c' w' (a.put o.dst v) k b:=by
 obtain⟨o',t,row,arr,g1,g2,g3,g4,g5,g6,g7,g8,g9⟩:=h
 exact⟨o',t,row,arr,g1,g2,g3,g4,g5,g6,g7.dv n,λu hu=>by rw[zz (g9 u hu i o oK ho)];exact g8 u hu,g9⟩
theorem Qwp(hm:Mem c w)(o:Obj):ju c w c (w.alloc o):=
 ⟨rfl,aX _,λb hb=>⟨hb,AW w o b (hm.fk b hb).1⟩,λr x hr=>⟨x,hr,rfl,rfl,rfl,rfl,rfl,Iff.rfl,λnv arr ha=>⟨arr,by rw[AW w o _ (hm.lt hr nv)];exact ha,rfl⟩⟩⟩
theorem Z43(w:World)(o:Obj):(w.alloc o).heap.size=w.heap.size+1:=by show(w.heap.push o).size=_;simp
theorem Zzh(hm:Mem c w)(o:Obj):Mem c (w.alloc o):=
 ⟨λr row hr=>uf (Qwp hm o) rfl Iff.rfl (λnv=>AW w o _ (hm.lt hr nv)) (hm.row r row hr),hm.inj,(λb hb=>⟨by have:=(hm.fk b hb).1;rw[Z43];omega,(hm.fk b hb).2⟩),by have:=hm.top;rw[Z43];omega,hm.kb.mono (Qwp hm o).I⟩
theorem Zn1(hk:c.R k=none)(row:Row)(b:Nat):ju c w (c.add k row b) w:=by
 refine⟨rfl,aX _,λb hb=>⟨hb,rfl⟩,λr x hr=>?_⟩
 have ia:r≠k:=λe=>by rw[e,hk]at hr;cases hr
 exact⟨x,by simp[Ctx.add,ia,hr],rfl,rfl,rfl,rfl,by simp[Ctx.add,ia],by simp[Ctx.add,ia],λnv arr ha=>⟨arr,ha,rfl⟩⟩
theorem zaD(hm:Mem c w)(hk:c.R k=none)(hA:Xh P o row arr)(hl:tS w0 c w b arr row.ty):Mem (c.add k row b) w:=by
 have hg:=Zn1 (w:=w) hk row b
 have jW:∀r x,r≠k->(c.add k row b).R r=some x->c.R r=some x/\(c.add k row b).ρ r=c.ρ r/\((c.add k row b).V r↔c.V r):=λr x e h=>⟨by simpa[Ctx.add,e]using h,by simp[Ctx.add,e],by simp[Ctx.add,e]⟩
 refine⟨λr x hr=>?_,λr s x y hr hs v1 v2 he=>?_,λb' hb=>⟨(hm.fk b' hb).1,λr x hr v=>?_⟩,hm.top,hm.kb⟩
 ·by_cases e:r=k
  ·subst e
   simp only[Ctx.add,if_true,Option.some.injEq]at hr
   subst hr
   obtain⟨e,h1,h2,h3,h4⟩:=hA.cells
   refine .inr ⟨by simp[Ctx.add],arr,by simp only[Ctx.add,if_true];exact hl.here,hA.sz,?_⟩
   rw[if_pos hA.box]
   exact⟨e,h1,h2,h3,h4 _ _⟩
  ·obtain⟨g1,g2,g3⟩:=jW r x e hr
   exact uf hg g2 g3 (λ_=>rfl) (hm.row r x g1)
 ·by_cases e1:r=k<;>by_cases e2:s=k
  ·rw[e1,e2]
  ·obtain⟨g1,g2,g3⟩:=jW s y e2 hs
   exfalso
   refine hl.row s y g1 (λe=>v2 (g3.2 e)) ?_
   rw[<-g2,<-he,e1];simp[Ctx.add]
  ·obtain⟨g1,g2,g3⟩:=jW r x e1 hr
   exfalso
   refine hl.row r x g1 (λe=>v1 (g3.2 e)) ?_
   rw[<-g2,he,e2];simp[Ctx.add]
  ·obtain⟨g1,g2,g3⟩:=jW r x e1 hr
   obtain⟨k1,k2,k3⟩:=jW s y e2 hs
   exact hm.inj r s x y g1 k1 (λe=>v1 (g3.2 e)) (λe=>v2 (k3.2 e)) (by rw[<-g2,<-k2];exact he)
 ·by_cases e:r=k
  ·subst e
   simp only[Ctx.add,if_true]
   intro e;subst e
   exact hl.fk hb
  ·obtain⟨g1,g2,g3⟩:=jW r x e hr
   rw[g2];exact(hm.fk b' hb).2 r x g1 (λe=>v (g3.2 e))
def S7(ops:Array Oper)(env:List (Nat×D))(i:Nat)(o:Oper):Prop:=∃td,o.dst=some td/\lM ops (i+1) td=true/\rj (look env td)=true
def S8(ops:Array Oper)(s:Nat->St)(ks:Nat->List Nat)(i c:Nat):Prop:=
 (∃o t a r ii off row aq,ops[i]?=some o/\o.guard=none/\o.op=.load t (.tmp a)/\lM ops i a=true/\look (s ops.size).env a=.ptr r ii off/\(s i).rows.getD r none=some row/\(s c).rows.getD r none=some aq/\((aq=row/\∀k,i<k->k<c->ks k=[])\/(S7 ops (s ops.size).env i o/\∃L:List (List Nat),aq=L.foldl (λr k=>Row.kill k r) row/\∀kk∈L,∃j,i<j/\j<c/\kk=ks j)))\/
 (∃o q,ops[i]?=some o/\o.guard=none/\mi (s ops.size).env o.op=some q/\(∀a∈q,lM ops i a=true)/\((∀k,i<k->k<c->ks k=[])\/K0 ops (s ops.size).env i o q))
structure Inv2(P:Program)(G:List bd)(N M:Nat)(ops:Array Oper)(s:Nat->St)(ks:Nat->List Nat)(val:Nat->D)(c0:Ctx)(w0:World)(dt:Nat->Bool)(a:Act)(w:World)(c d:Nat):Prop where
 cd:c<=d
 dn:d<=ops.size
 pre:∀i,i<c->dt i=true\/S8 ops s ks i c
 quiet:∀(i:Nat) (o:Oper),c<=i->i<d->ops[i]?=some o->lO G o.op=true
 wr:∀(o:Oper),ops[d]?=some o->lO G o.op=false
 closed:∀j,dt j=true->∀(o:Oper),ops[j]?=some o->∀e∈o.after,Region.binds .any e=true->dt e.on=true
 size:N<=a.tmps.size
 defers:mH w0.heap.size w a.defers
 gg:c0.base<=w0.heap.size
 ib:∀r row,c0.R r=some row->r<M
 ctx:∃(cx:Ctx) (B:Nat->Nat),Mem cx w/\(∀r,cx.R r=kS s dt c (d-c) r)/\(∀t,(∀k o,k<c->dt k=false->ops[k]?=some o->o.dst≠some t)->(∀k o,d<=k->dt k=true->ops[k]?=some o->o.dst≠some t)->Rep cx w (jv ops s val dt c (d-c) t) (a.tmps.getD t undef))/\AM c0 w0 cx w/\
  (∀i,d<=i->dt i=true->NU P ops s val w0 cx w a i (B i))/\(∀i j,d<=i->d<=j->dt i=true->dt j=true->B i=B j->i=j)
theorem Xj{t:Nat}(hs:N<=a.tmps.size)(hd:∀u,o.dst=some u->u<N)(h1:o.dst=some t->Rep c' w' d v)(h2:o.dst≠some t->Rep c' w' d (a.tmps.getD t undef)):Rep c' w' d ((a.put o.dst v).tmps.getD t undef):=by
 cases ho:o.dst with
 |none=>simpa[Act.put]using h2 (by rw[ho];simp)
 |some u=>
  by_cases e:u=t
  ·subst e
   have hu:u<a.tmps.size:=bM (hd u ho) hs
   simpa[Act.put,aY,hu]using h1 ho
  ·have:=h2 (by rw[ho];intro h;exact e (Option.some.inj h))
   simpa[Act.put,aZ e]using this
theorem S9{ks:Nat->List Nat}(hc:Xi P G N M ops s ks val){c d:Nat}
 (hq:∀(i:Nat) (o:Oper),c<=i->i<d->ops[i]?=some o->lO G o.op=true) (hd:d<=ops.size)
 (h:∃(cx:Ctx) (B:Nat->Nat),Mem cx w/\(∀r,cx.R r=(s c).rows.getD r none)/\(∀t,(∀k o,k<c->dt k=false->ops[k]?=some o->o.dst≠some t)->(∀k o,c<=k->dt k=true->ops[k]?=some o->o.dst≠some t)->Rep cx w (look (s c).env t) (a.tmps.getD t undef))/\AM c0 w0 cx w/\
  (∀i,c<=i->dt i=true->NU P ops s val w0 cx w a i (B i))/\(∀i j,c<=i->c<=j->dt i=true->dt j=true->B i=B j->i=j)):
 ∀ n,c+n<=d->∃(cx:Ctx) (B:Nat->Nat),Mem cx w/\(∀r,cx.R r=kS s dt c n r)/\(∀t,(∀k o,k<c->dt k=false->ops[k]?=some o->o.dst≠some t)->(∀k o,c+n<=k->dt k=true->ops[k]?=some o->o.dst≠some t)->Rep cx w (jv ops s val dt c n t) (a.tmps.getD t undef))/\AM c0 w0 cx w/\
  (∀i,c+n<=i->dt i=true->NU P ops s val w0 cx w a i (B i))/\(∀i j,c+n<=i->c+n<=j->dt i=true->dt j=true->B i=B j->i=j):=by
 have hlen:∀k l,c<=k->k<=l->l<=d->(s k).rows.length<=(s l).rows.length:=λk l h1 h2 h3=>Lt hc.toChain hq hd h1 h2 h3
 have Ta:∀n,c+n<=d->∀r,(s (c+n)).rows.length<=r->kS s dt c n r=none:=by
  intro n
  induction n with
  |zero=>intro _ r hr;simp only[kS];simp only[aB]at hr;rw[aV,aJ hr];rfl
  |succ n ih=>
   intro hn r hr
   simp only[kS]
   have:=hlen (c+n) (c+n+1) (by omega) (by omega) (by omega)
   rw[show c+(n+1)=c+n+1 by omega]at hr
   rw[if_neg (by omega)]
   exact ih (by omega) r (by omega)
 intro n
 induction n with
 |zero=>intro _;simpa only[kS,jv,aB]using h
 |succ n ih=>
  intro hn
  obtain⟨cx,B,hm,hR,hE,oJ,ov,o8⟩:=ih (by omega)
  cases hl:dt (c+n)with
  |false=>
   refine⟨cx,B,hm,λr=>?_,λt ht he=>?_,oJ,λi hi Ig=>ov i (by omega) Ig,λi j hi hj=>o8 i j (by omega) (by omega)⟩
   ·simp only[kS,hl,aA,false_and,if_false];exact hR r
   ·simp only[jv,hl,aA,false_and,if_false]
    refine hE t ht λk o hk pd=>he k o ?_ pd
    by_cases e:k=c+n
    ·rw[e,hl]at pd;cases pd
    ·omega
  |true=>
   obtain⟨o,ty,row,arr,g1,g2,g3,g4,g5,g6,g7,g8,g9⟩:=ov (c+n) (aX _) hl
   have hk:cx.R (s (c+n)).rows.length=none:=by rw[hR];exact Ta n (by omega) _ (aX _)
   have hg:=Zn1 (w:=w) hk row (B (c+n))
   refine⟨cx.add (s (c+n)).rows.length row (B (c+n)),B,zaD hm hk g4 g7,λr=>?_,λt ht he=>?_,⟨oJ.cz.trans hg,oJ.fr,oJ.fk,λr x hr hv=>?_,oJ.xb⟩,λi hi Ig=>?_,λi j hi hj=>o8 i j (by omega) (by omega)⟩
   ·simp only[kS,hl,true_and,g6,lA,List.length_singleton]
    by_cases e:r=(s (c+n)).rows.length
    ·subst e
     rw[if_pos ⟨aX _,Nat.lt_succ_self _⟩]
     simp[Ctx.add,aV]
    ·rw[if_neg (by omega)]
     simp only[Ctx.add,if_neg e];exact hR r
   ·simp only[jv,hl,true_and,g1,aW]
    split
    ·rename_i uH
     rw[g8 t uH,g5]
     obtain⟨e,q1,_⟩:=g4.cells
     exact⟨row,(Ctx.jr _ _ _ _).1,by simp[Ctx.add],by rw[q1];simp[ag.l],by simp[(Ctx.jr _ _ _ _).2]⟩
    ·rename_i uH
     refine AN hg (hE t ht λk o' wT pd dx=>?_)
     by_cases e:k=c+n
     ·subst e;rw[g1]at dx;cases dx;exact uH
     ·exact he k o' (by omega) pd dx
   ·by_cases e:r=(s (c+n)).rows.length
    ·right;right
     rw[e];simp only[Ctx.add,if_true];exact g7.jW
    ·have rz:cx.R r=some x:=by simpa[Ctx.add,e]using hr
     have Fj:¬cx.V r:=by simpa[Ctx.add,e]using hv
     have:=oJ.oO r x rz Fj
     simpa only[Ctx.add,if_neg e]using this
   ·obtain⟨o',t',aq,iX,f1,f2,f3,f4,f5,f6,f7,f8,f9⟩:=ov i (by omega) Ig
    refine⟨o',t',aq,iX,f1,f2,f3,f4,f5,f6,⟨f7.jW,f7.lt,f7.here,f7.fk,λr x hr hv e'=>?_⟩,f8,f9⟩
    by_cases e:r=(s (c+n)).rows.length
    ·rw[e]at e'
     simp only[Ctx.add,if_true]at e'
     have:=o8 (c+n) i (aX _) (by omega) hl Ig e'
     omega
    ·exact f7.row r x (by simpa[Ctx.add,e]using hr) (by simpa[Ctx.add,e]using hv) (by simpa only[Ctx.add,if_neg e]using e')
section
variable {P:Program} {G:List bd} {N M:Nat} {ops:Array Oper} {s:Nat->St} {ks:Nat->List Nat} {val:Nat->D} (hc:Xi P G N M ops s ks val) (lZ:S6 G ops (s ops.size).env=true)
include hc lZ
theorem yz {c0 :Ctx}{dt gj:Nat->Bool}{c d i:Nat}(hI:Inv2 P G N M ops s ks val c0 w0 dt a w c d)(ho:ops[i]? =some o)(h0:dt i=false)(h1:gj i=true)(h2: ∀k,k≠i->gj k=dt k)
    (Ov: ∀e∈o.after,Region.binds .any e=true->dt e.on=true) {K:Act->World->Prop} {Q:Exit->Act->World->Prop} (hK: ∀a' w' c' d',Inv2 P G N M ops s ks val c0 w0 gj a' w' c' d'->K a' w'):wpOp P ops Q i K a w:=by
  have bc:=(Array.getElem?_eq_some_iff.1 ho).1
  have rS: ∀k,((Region.before ops).getD i 0).testBit k=true->dt k=true:=λk hk=>
    Ut (av:=λk=>dt k=true) hI.closed (λo' jI=>by rw[ho]at jI;cases jI;exact Ov) hk
  have oI: ∀j k,dt j=true->((Region.before ops).getD j 0).testBit k=true->dt k=true:=λj k hj hk=>
    Ut (av:=λk=>dt k=true) hI.closed (hI.closed j hj) hk
  have uJ: ∀j,gj j=true-> ∀(o:Oper),ops[j]? =some o-> ∀e∈o.after,Region.binds .any e=true->gj e.on=true:=by
    intro j hj o' jI e he hb
    have ia:dt e.on=true:=by
      by_cases e':j=i
      . subst e';rw[ho]at jI;cases jI;exact Ov e he hb
      . rw[h2 j e']at hj;exact hI.closed j hj o' jI e he hb
    rw[h2 e.on (λe'=>by rw[e',h0]at ia;cases ia)]
    exact ia
  have Ew: ∀{x:Oper} {t:TypeId} {y:Operand},x.op= .load t y->lO G x.op=true:=λh=>by rw[h];rfl
  have hpu: ∀{x:Oper} {env:List (Nat×D)} {q:List Nat},mi env x.op=some q->lO G x.op=true:=λh=>by
    unfold lO;rw[(Z9d (G:=G) h).1];rfl
  have Ic: ∀{x:Oper} {t:TypeId},x.op= .alloc t->lO G x.op=true:=λh=>by rw[h];rfl
  obtain⟨cx,B,hm,hR,hE,oJ,ov,o8⟩:=hI.ctx
  have Gt:dt d=false:=by
    cases hl:dt d with
    |false=>rfl
    | true=>
      obtain⟨o',t,_,_,g1,_,g3,_⟩:=ov d (aX _) hl
      have:=hI.wr _ g1
      rw[Ic g3]at this;cases this
  have hid:i<=d\/(d<i/\(∃t,o.guard=none/\o.op= .alloc t)/\ ∀u,o.dst=some u-> ∀k o',k≠i->ops[k]? =some o'->o'.dst≠some u):=by
    by_cases h:i<=d
    . exact .inl h
    . right
      have Cs:ops[d]? =some ops[d]:=aU (by omega)
      have:=(GN lZ (show d<i by omega) Cs ho).2
      rcases this with⟨hq,_⟩|hb|hb|hb
      . rw[hI.wr _ Cs]at hq;cases hq
      . have:=rS d hb
        rw[Gt]at this;cases this
      . rcases S4 Cs ho hb with⟨t,b,t',b',z,r,r',ii,off,mK,iY,g1,g2,g3,_⟩|⟨q,g1,g2,g3,_⟩|⟨q,g1,g3,_⟩|⟨_,_,_,_,_,_,_,_,_,g1,g2,g3,_⟩|⟨_,_,_,_,_,_,_,_,g1,g2,g3,_⟩
        . have:=Ew g3
          rw[hI.wr _ Cs]at this;cases this
        . have:=hpu g3
          rw[hI.wr _ Cs]at this;cases this
        . have:=hpu g3
          rw[hI.wr _ Cs]at this;cases this
        . have:=Ew g3
          rw[hI.wr _ Cs]at this;cases this
        . have:=Ew g3
          rw[hI.wr _ Cs]at this;cases this
      . exact⟨by omega,hb⟩
  have Yp:=hI.cd
  have I7:=hI.dn
  have jD:cx.base<=w.heap.size:=by rw[oJ.cz.base];exact Nat.le_trans hI.gg oJ.fr.size
  have seen: ∀k o' t,k<i->ops[k]? =some o'->o'.dst=some t->t∈o.looksAt ops->dt k=true:=by
    intro k o' t hk jI hd ht
    rcases(GN lZ hk jI ho).1 with uK|hb
    . exact((G9 uK).2.1 hd ht).elim
    . exact rS _ hb
  have Ef: ∀k o' t,d<=k->dt k=true->ops[k]? =some o'->t∈o.looksAt ops->i<=d->o'.dst≠some t:=by
    intro k o' t hk hl jI ht hid hd
    have oK:i<k:=by
      by_cases e:k=i
      . rw[e,h0]at hl;cases hl
      . omega
    rcases(GN lZ oK ho jI).1 with uK|hb
    . exact(G9 uK).2.2 hd ht
    . have:=oI _ _ hl hb
      rw[h0]at this;cases this
  rcases hid with hid|⟨hdi,⟨t0,hg0,ho0⟩,Ly⟩
  rotate_left
  ·
    obtain⟨hks,row,arr,hA,hv,db⟩:=(hc.nf i o ho).al t0 hg0 ho0
    unfold wpOp
    simp only[ho]
    have hw:Region.wanted o (yielded ops a.tmps)=true:=by simp [Region.wanted,hg0]
    rw[if_pos hw]
    refine Hg (hA.run a.eval w) ?_
    have hmn:=Zzh hm (.cells arr row.ty)
    have w6:=Qwp hm (.cells arr row.ty)
    have hn:j6 [] cx w cx (w.alloc (.cells arr row.ty)):=mn.toK ⟨hmn,w6,Fr.alloc _ w _,λb hb=> .inl hb,λr row hr v=> .inl ⟨⟨row,hr⟩,v,rfl⟩⟩
    refine hK _ _ c d ⟨hI.cd,hI.dn,λk hk=>by rw[h2 k (by omega)];exact hI.pre k hk,hI.quiet,hI.wr,uJ,?_,?_,hI.gg,hI.ib,cx,λk=>if k=i then w.heap.size else B k,hmn,λr=> ?_,λt ht he=> ?_,oJ.step (ks:=[]) (λk hk=>by simp [da]at hk) hI.ib hn,λk hdk hl=> ?_,λk j hk hj pd IL e=> ?_⟩
    . cases hd:o.dst<;>simp [Act.put]<;>exact hI.size
    . first|exact mH.put (hI.defers.step hm hn.fr)|exact mH.put (hI.defers.step hm hn.toW.fr)
    . rw[hR,Uz (λk hk=>h2 _ (by omega))]
    . rw[Uy (λk hk=>h2 _ (by omega))]
      refine Xj hI.size (λu=>hc.dst i o u ho) (λhd=>(he i o (by omega) h1 ho hd).elim) (λhd=> ?_)
      exact AN w6 (hE t (λk o' hk hl dx=>ht k o' hk (by rw[h2 k (by omega)];exact hl) dx) (λk o' hk hl dx=>he k o' hk (by rw[h2 k (λe'=>by rw[e',h0]at hl;cases hl)];exact hl) dx))
    . by_cases e:k=i
      . subst e
        simp only[if_true]
        exact⟨o,t0,row,arr,ho,hg0,ho0,hA,hv,db,⟨oJ.fr.size,by rw[Z43];omega,WL w _,λhb=>by have:=(hm.fk _ hb).1;omega,λr aq hr Fj e=>by have:=hm.lt hr Fj;omega⟩,λu hu=>zY hu (bM (hc.dst k o u ho hu) hI.size),Ly⟩
      . simp only[if_neg e]
        rw[h2 k e]at hl
        exact(ov k hdk hl).dv hn (Ne.symm e) ho
    . have key: ∀k,d<=k->gj k=true->k≠i->B k<w.heap.size:=λk hk pd e=>by
        rw[h2 k e]at pd
        obtain⟨_,_,_,_,_,_,_,_,_,_,g7,_⟩:=ov k hk pd
        exact g7.lt
      by_cases e1:k=i<;>by_cases e2:j=i
      . rw[e1,e2]
      . simp only[if_pos e1,if_neg e2]at e
        have:=key j hj IL e2;omega
      . simp only[if_neg e1,if_pos e2]at e
        have:=key k hk pd e1;omega
      . simp only[if_neg e1,if_neg e2]at e
        exact o8 k j hk hj (by rw[<-h2 k e1];exact pd) (by rw[<-h2 j e2];exact IL) e
  by_cases rA:c<=i
  . by_cases e:i=d
    ·
      subst e
      have jf: ∀k o',c<=k->k<i->ops[k]? =some o'->dt k=true\/NT G ops (s ops.size).env k i=true:=λk o' nL so dx=>by
        rcases(GN lZ so dx ho).2 with⟨_,hq⟩|hb|hb|⟨⟨t4,_,g4⟩,_⟩
        . rw[hI.wr _ ho]at hq;cases hq
        . exact .inl (rS _ hb)
        . exact .inr hb
        . have:=hI.wr _ ho
          rw[Ic g4]at this;cases this
      have hnr: ∀k o',c<=k->k<i->ops[k]? =some o'->NT G ops (s ops.size).env k i=true->(s (k+1)).rows=(s k).rows:=λk o' nL so dx hb=>by
        rcases S4 dx ho hb with⟨t,b,t',b',z,r,r',ii,off,mK,iY,g1,g2,g3,g4,g5,g6,g7,g8,g9⟩|⟨q,g1,g2,g3,g4,_⟩|⟨q,g1,g3,g4⟩|⟨t,b,r,ii,off,_,_,_,_,g1,g2,g3,g5,g7,_⟩|⟨t,b,r,ii,off,_,_,_,g1,g2,g3,g5,g7,_⟩
        . exact((hc.nf k o' dx).ld t b r ii off g1 g3 (Ff hc g5 g7 (aX _) (by omega))).2.1
        . exact((hc.nf k o' dx).pu q g1 (Zkt hc g3 g4 (aX _) (by omega))).2.1
        . exact((hc.nf k o' dx).pu q g1 (Zkt hc g3 (λa ha=>(g4.1 a ha).1) (aX _) (by omega))).2.1
        . exact((hc.nf k o' dx).ld t b r ii off g1 g3 (Ff hc g5 g7 (aX _) (by omega))).2.1
        . exact((hc.nf k o' dx).ld t b r ii off g1 g3 (Ff hc g5 g7 (aX _) (by omega))).2.1
      have db: ∀r,cx.R r=(s i).rows.getD r none:=λr=>by
        rw[hR,Zi0 hc hI.quiet I7 (by omega) (λk hk=>by
          have dx:ops[c+k]? =some ops[c+k]:=aU (by omega)
          rcases jf (c+k) _ (by omega) (by omega) dx with h|h
          . exact .inl h
          . exact .inr (hnr (c+k) _ (by omega) (by omega) dx h)),show c+(i-c)=i by omega]
      have tR: ∀t,(∀k o',k<i->dt k=false->ops[k]? =some o'->o'.dst≠some t)->(∀k o',i<=k->dt k=true->ops[k]? =some o'->o'.dst≠some t)->Rep cx w (look (s i).env t) (a.tmps.getD t undef):=λt ht he=>by
        have:=hE t (λk o' hk=>ht k o' (by omega)) he
        rwa [Zo9 hc hI.quiet I7 (by omega) (λk o' hk dx hd=>by
          cases hl:dt (c+k) with
          |true=>rfl
          |false=>exact(ht _ _ (by omega) hl dx hd).elim),show c+(i-c)=i by omega]at this
      refine qaD (M:=M) ho hm jD db (λt ht=>tR t (λk o' hk hl dx hd=>by rw[seen k o' t hk dx hd ht]at hl;cases hl) (λk o' hk hl dx=>Ef k o' t hk hl dx ht (aX _))) (hc.op i o ho) λv w' c' hM hn ku hv=> ?_
      obtain⟨d',g1,g2,g3,g4⟩:=Ou G ops _ (i+1) rfl (by omega)
      have dv: ∀k o' t b r ii off row,k<i->ops[k]? =some o'->dt k=false->o'.guard=none->o'.op= .load t (.tmp b)->lM ops k b=true->look (s ops.size).env b= .ptr r ii off->(s i).rows.getD r none=some row->(ks i=[]/\(s (i+1)).rows.getD r none=some row)\/(S7 ops (s ops.size).env k o'/\(s (i+1)).rows.getD r none=some (row.kill (ks i))):=by
        intro k o' t b r ii off row hk dx hl q1 q2 q3 q4 q5
        rcases(GN lZ hk dx ho).2 with⟨_,hq⟩|hb|hb|⟨⟨t4,_,g4⟩,_⟩
        rotate_right
        . have:=hI.wr _ ho
          rw[Ic g4]at this;cases this
        . rw[hI.wr _ ho]at hq;cases hq
        . rw[rS _ hb]at hl;cases hl
        . rcases S4 dx ho hb with⟨t1,b1,t',b',z,r1,r',Tb,Eg,mK,iY,p1,p2,p3,p4,p5,p6,p7,p8,p9⟩|⟨q,p1,p2,p3,_⟩|⟨q,p1,p3,_⟩|⟨t1,b1,r1,Tb,Eg,args,dh,x0,l0,p1,p2,p3,p4,p5,p6,p7,p8,p9⟩|⟨t1,b1,r1,Tb,Eg,args,dh,td,p1,p2,p3,p4,p5,p6,p7,p8,p9⟩
          . rw[q2]at p3;cases p3
            rw[q4]at p7;cases p7
            obtain⟨f1,f2⟩:=(hc.nf i o ho).st t' b' z r' mK iY p2 p4 (Ff hc p6 p8 (by omega) (by omega))
            exact .inl ⟨f1,by rw[f2 r p9];exact q5⟩
          . rw[q2]at p3;simp [mi,sk,cw,q4]at p3
          . rw[q2]at p3;simp [mi,sk,cw,q4]at p3
          . obtain⟨f1,f2⟩:=(hc.nf i o ho).ap args dh x0 l0 p2 p6 p7 (by rw[Fg hc p8 (Zko p9) (by omega) (by omega)];exact p9)
            exact .inl ⟨f1,f2 r row q5⟩
          . refine .inr ⟨⟨td,p7,p8,p9⟩,(hc.nf i o ho).ap2 args dh p2 p6 r row q5 ?_⟩
            have e1:=Ff hc q3 q4 (show k<=i by omega) (by omega)
            have e2:=Ff hc q3 q4 (show k<=i+1 by omega) (by omega)
            rw[hc.env i o b ho,if_neg (KZ q3 (by omega) ho),CD,e1]at e2
            cases hb:da r (ks i) with
            |false=>rfl
            |true=>simp [D.ko,D.kill,D.fg,hb]at e2
      have IM: ∀k o' q,k<i->ops[k]? =some o'->dt k=false->mi (s ops.size).env o'.op=some q->ks i=[]\/K0 ops (s ops.size).env k o' q:=by
        intro k o' q hk dx hl hq
        rcases(GN lZ hk dx ho).2 with⟨_,GM⟩|hb|hb|⟨⟨t4,_,g4⟩,_⟩
        rotate_right
        . have:=hI.wr _ ho
          rw[Ic g4]at this;cases this
        . rw[hI.wr _ ho]at GM;cases GM
        . rw[rS _ hb]at hl;cases hl
        . rcases S4 dx ho hb with⟨t1,b1,t',b',z,r1,r',Tb,Eg,mK,iY,p1,p2,p3,p4,p5,p6,p7,p8⟩|⟨q,p1,p2,p3,p4,p5⟩|⟨q',p1,p3,p4⟩|⟨t1,b1,r1,Tb,Eg,args,dh,x0,l0,p1,p2,p3,p4,p5,_⟩|⟨t1,b1,r1,Tb,Eg,args,dh,td,p1,p2,p3,p4,p5,_⟩
          rotate_right
          . rw[p3]at hq;simp [mi,sk,cw,p5]at hq
          rotate_right
          . rw[p3]at hq;simp [mi,sk,cw,p5]at hq
          . rw[p3]at hq;simp [mi,sk,cw,p7]at hq
          . rcases p5 with⟨t',b',z,r',mK,iY,p5,p6,p7⟩|⟨f,args,dh,p5,p6⟩
            . exact .inl ((hc.nf i o ho).st t' b' z r' mK iY p2 p5 (Ff hc p6 p7 (by omega) (by omega))).1
            . exact .inl ((hc.nf i o ho).cl f args dh p2 p5 p6)
          . rw[p3]at hq;cases hq
            exact .inr p4
      have GO: ∀k,c<=k->k<i->ks k=[]:=λk nL so=>by
        have dx:ops[k]? =some ops[k]:=aU (by omega)
        exact(Yf (hc.op k _ dx) (hI.quiet k _ nL so dx)).1
      have Tc: ∀t,(∀k o,k<i+1->gj k=false->ops[k]? =some o->o.dst≠some t)->(∀k o,i+1<=k->gj k=true->ops[k]? =some o->o.dst≠some t)->Rep c' w' (look (s (i+1)).env t) ((a.put o.dst v).tmps.getD t undef):=by
        intro t ht he
        rw[hc.env i o t ho]
        refine Xj hI.size (λu=>hc.dst i o u ho) (λhd=>by rw[if_pos hd];exact hv) (λhd=> ?_)
        rw[if_neg hd,CD]
        refine AN hn.cz (YC (tR t (λk o' hk hl dx=> ?_) (λk o' hk hl dx=> ?_)))
        . exact ht k o' (by omega) (by rw[h2 k (by omega)];exact hl) dx
        . have ia:k≠i:=λe'=>by rw[e',h0]at hl;cases hl
          exact he k o' (by omega) (by rw[h2 k ia];exact hl) dx
      refine hK _ w' (i+1) d' ⟨g1,g2,λk hk=> ?_,g3,g4,uJ,?_,?_,hI.gg,hI.ib,by
        have:=S9 hc (c0:=c0) (w0:=w0) (w:=w') (dt:=gj) (a:=a.put o.dst v) (c:=i+1) (d:=d') g3 g2 ⟨c',B,hn.mem,ku,Tc,oJ.step hM hI.ib hn,λk hk pd=>(ov k (by omega) (by rw[<-h2 k (by omega)];exact pd)).dv hn (by omega) ho,λk j hk hj pd IL e=>o8 k j (by omega) (by omega) (by rw[<-h2 k (by omega)];exact pd) (by rw[<-h2 j (by omega)];exact IL) e⟩ (d'-(i+1)) (by omega)
        rwa [show i+1+(d'-(i+1))=d' by omega]at this⟩
      . by_cases e' : k=i
        . rw[e'];exact .inl h1
        . rw [h2 k e']
          cases hl:dt k with
          |true=>exact .inl rfl
          | false =>
            right
            by_cases Yi:k<c
            . rcases hI.pre k Yi with h|h
              . rw[hl]at h;cases h
              . rcases h with h|⟨o',q,q1,q2,q3,q4,q8⟩
                rotate_left
                . rcases q8 with q8|q8
                  rotate_left
                  . exact .inr ⟨o',q,q1,q2,q3,q4, .inr q8⟩
                  rcases IM k o' q (by omega) q1 hl q3 with f1|f1
                  rotate_left
                  . exact .inr ⟨o',q,q1,q2,q3,q4, .inr f1⟩
                  refine .inr ⟨o',q,q1,q2,q3,q4, .inl λk' nL so=> ?_⟩
                  by_cases LA:k'<c
                  . exact q8 k' nL LA
                  . by_cases EN:k'<i
                    . exact GO k' (by omega) EN
                    . rw[show k'=i by omega];exact f1
                obtain⟨o',t,b,r,ii,off,row,aq,q1,q2,q3,q4,q5,q6,q7,q8⟩:=h
                have sc:r<(s c).rows.length:=by
                  by_cases hh:r<(s c).rows.length
                  . exact hh
                  . simp only[aV,aJ (show(s c).rows.length<=r by omega)]at q7;cases q7
                have iT:=Lu hc.toChain hI.quiet I7 (aX c) rA (aX i) sc
                rcases dv k o' t b r ii off aq (by omega) q1 hl q2 q3 q4 q5 (by rw[iT];exact q7) with⟨f1,f2⟩|⟨f1,f2⟩
                . rcases q8 with⟨e8,q8⟩|q8
                  . refine .inl ⟨o',t,b,r,ii,off,row,aq,q1,q2,q3,q4,q5,q6,f2, .inl ⟨e8,λk' nL so=> ?_⟩⟩
                    by_cases LA:k'<c
                    . exact q8 k' nL LA
                    . by_cases EN:k'<i
                      . exact GO k' (by omega) EN
                      . rw[show k'=i by omega];exact f1
                  . exact .inl ⟨o',t,b,r,ii,off,row,aq,q1,q2,q3,q4,q5,q6,f2, .inr ⟨q8.1,q8.2.elim λL hL=>⟨L,hL.1,λkk hk=>(hL.2 kk hk).elim λj hj=>⟨j,hj.1,by omega,hj.2.2⟩⟩⟩⟩
                . refine .inl ⟨o',t,b,r,ii,off,row,_,q1,q2,q3,q4,q5,q6,f2, .inr ⟨f1,?_⟩⟩
                  rcases q8 with⟨e8,_⟩|⟨_,L,e8,hL⟩
                  . exact⟨[ks i],by rw[e8];rfl,λkk hk=>⟨i,by omega,by omega,List.mem_singleton.1 hk⟩⟩
                  . refine⟨L++[ks i],by rw[List.foldl_append,<-e8];rfl,λkk hk=> ?_⟩
                    rcases List.mem_append.1 hk with hk|hk
                    . obtain⟨j,j1,j2,j3⟩:=hL kk hk
                      exact⟨j,j1,by omega,j3⟩
                    . exact⟨i,by omega,by omega,List.mem_singleton.1 hk⟩
            . have dx:ops[k]? =some ops[k]:=aU (by omega)
              rcases jf k _ (by omega) (by omega) dx with h|h
              . rw[hl]at h;cases h
              . have go: ∀t b r ii off,ops[k].guard=none->ops[k].op= .load t (.tmp b)->lM ops k b=true->look (s ops.size).env b= .ptr r ii off->S8 ops s ks k (i+1):=by
                  intro t b r ii off p1 p3 p5 p7
                  obtain⟨row,c6⟩:=((hc.nf k _ dx).ld t b r ii off p1 p3 (Ff hc p5 p7 (aX _) (by omega))).2.2.1
                  have sc:r<(s k).rows.length:=by
                    by_cases hh:r<(s k).rows.length
                    . exact hh
                    . simp only[aV,aJ (show(s k).rows.length<=r by omega)]at c6;cases c6
                  have iT:=Lu hc.toChain hI.quiet I7 (show c<=k by omega) (show k<=i by omega) (aX i) sc
                  rcases dv k _ t b r ii off row (by omega) dx hl p1 p3 p5 p7 (by rw[iT];exact c6) with⟨f1,f2⟩|⟨f1,f2⟩
                  rotate_left
                  . exact .inl ⟨_,t,b,r,ii,off,row,_,dx,p1,p3,p5,p7,c6,f2, .inr ⟨f1,[ks i],rfl,λkk hk=>⟨i,by omega,by omega,List.mem_singleton.1 hk⟩⟩⟩
                  refine .inl ⟨_,t,b,r,ii,off,row,row,dx,p1,p3,p5,p7,c6,f2, .inl ⟨rfl,λk' nL so=> ?_⟩⟩
                  by_cases EN:k'<i
                  . exact GO k' (by omega) EN
                  . rw[show k'=i by omega];exact f1
                rcases S4 dx ho h with⟨t,b,t',b',z,r,r',ii,off,mK,iY,p1,p2,p3,p4,p5,p6,p7,p8,p9⟩|⟨q,p1,p2,p3,p4,p5⟩|⟨q,p1,p3,p4⟩|⟨t,b,r,ii,off,_,_,_,_,p1,p2,p3,p5,p7,_⟩|⟨t,b,r,ii,off,_,_,_,p1,p2,p3,p5,p7,_⟩
                rotate_right
                . exact go t b r ii off p1 p3 p5 p7
                rotate_left 2
                rotate_left
                . exact go t b r ii off p1 p3 p5 p7
                rotate_right
                . exact .inr ⟨_,q,dx,p1,p3,λa ha=>(p4.1 a ha).1, .inr p4⟩
                rotate_left
                . rcases IM k _ q (by omega) dx hl p3 with f1|f1
                  rotate_left
                  . exact .inr ⟨_,q,dx,p1,p3,p4, .inr f1⟩
                  refine .inr ⟨_,q,dx,p1,p3,p4, .inl λk' nL so=> ?_⟩
                  by_cases EN:k'<i
                  . exact GO k' (by omega) EN
                  . rw[show k'=i by omega];exact f1
                exact go t b r ii off p1 p3 p5 p7
      . cases hd:o.dst<;>simp [Act.put]<;>exact hI.size
      . first|exact mH.put (hI.defers.step hm hn.fr)|exact mH.put (hI.defers.step hm hn.toW.fr)
    ·
      have I5:i<d:=by omega
      have hq:=hI.quiet i o rA I5 ho
      have Ow:=Ye hq
      have Ox: ∀t∈o.looksAt ops,Rep cx w (look (s i).env t) (a.tmps.getD t undef):=λt ht=>by
        have I6 : ∀n,c+n<=d->jv ops s val dt c n t=if c+n<=i then look (s (c+n)).env t else look (s i).env t:=by
          intro n
          induction n with
          |zero=>intro _;simp only[jv,aB];rw[if_pos rA]
          | succ n ih=>
            intro hn
            obtain⟨ok,dx⟩: ∃ok,ops[c+n]? =some ok:=⟨_,aU (show c+n<ops.size by omega)⟩
            have ih:=ih (by omega)
            simp only[jv,dx,aW]
            by_cases hk:c+n<i
            . have hA:c+(n+1)<=i:=by omega
              have UA:c+n<=i:=by omega
              rw[if_pos hA,show c+(n+1)=c+n+1 by omega,hc.toChain.Fm dx (hI.quiet _ _ (by omega) (by omega) dx) t]
              rw[if_pos UA]at ih
              by_cases hd:ok.dst=some t
              . rw[if_pos ⟨seen _ _ t hk dx hd ht,hd⟩,if_pos hd]
              . rw[if_neg (λg=>hd g.2),if_neg hd,ih]
            . have I8: ¬(dt (c+n)=true/\ok.dst=some t):=by
                rintro⟨g1,g2⟩
                by_cases e':c+n=i
                . rw[e',h0]at g1;cases g1
                . have oK:i<c+n:=by omega
                  rcases(GN lZ oK ho dx).1 with uK|hb
                  . exact(G9 uK).2.2 g2 ht
                  . have:=oI _ _ g1 hb
                    rw[h0]at this;cases this
              have hA: ¬c+(n+1)<=i:=by omega
              rw[if_neg I8,ih,if_neg hA]
              split
              . rw[show c+n=i by omega]
              . rfl
        have:=hE t (λk o' hk hl dx hd=>by rw[seen k o' t (by omega) dx hd ht]at hl;cases hl) (λk o' hk hl dx=>Ef k o' t hk hl dx ht hid)
        rw[I6 (d-c) (by omega),if_neg (by omega)]at this
        exact this
      have hlen: ∀k l,c<=k->k<=l->l<=d->(s k).rows.length<=(s l).rows.length:=λk l h1 h2 h3=>Lt hc.toChain hI.quiet hI.dn h1 h2 h3
      have iy: ∀k l,c<=k->k<=l->l<=d-> ∀r,r<(s k).rows.length->(s l).rows.getD r none=(s k).rows.getD r none:=λk l h1 h2 h3 r hr=>Lu hc.toChain hI.quiet hI.dn h1 h2 h3 hr
      have Ct: ∀n,c+n<=d-> ∀r,r<(s i).rows.length-> ∀row,kS s dt c n r=some row->(s i).rows.getD r none=some row:=by
        intro n
        induction n with
        | zero=>
          intro _ r hr row h
          simp only[kS]at h
          by_cases Yj:r<(s c).rows.length
          . rw[iy c i (aX _) rA (by omega) r Yj];exact h
          . simp only[aV,aJ (show(s c).rows.length<=r by omega)]at h;cases h
        | succ n ih=>
          intro hn r hr row h
          simp only[kS]at h
          split at h
          . rename_i g
            obtain⟨g1,g2,g3⟩:=g
            have Yk:c+n<i:=by
              by_cases nu:c+n<i
              . exact nu
              . by_cases e':c+n=i
                . rw[e',h0]at g1;cases g1
                . have:=hlen i (c+n) rA (by omega) (by omega);omega
            rw[iy (c+n+1) i (by omega) (by omega) (by omega) r g3];exact h
          . exact ih (by omega) r hr row h
      have Cu: ∀n,c+n<=d-> ∀r,(s i).rows.length<=r->r<(s (i+1)).rows.length->kS s dt c n r=none:=by
        intro n
        induction n with
        | zero=>
          intro _ r h1 h2
          have:=hlen c i (aX _) rA (by omega)
          simp only[kS,aV,aJ (show(s c).rows.length<=r by omega),Option.getD_none]
        | succ n ih=>
          intro hn r h1 h2
          simp only[kS]
          rw[if_neg]
          . exact ih (by omega) r h1 h2
          . rintro⟨g1,g2,g3⟩
            by_cases e':c+n=i
            . rw[e',h0]at g1;cases g1
            . by_cases nu:c+n<i
              . have:=hlen (c+n+1) i (by omega) (by omega) (by omega);omega
              . have:=hlen (i+1) (c+n) (by omega) (by omega) (by omega);omega
      have pJ:mN cx (s i).rows:=λr row aq g1 g2=>by
        have hr:r<(s i).rows.length:=by
          by_cases h:r<(s i).rows.length
          . exact h
          . simp only[aV,aJ (show(s i).rows.length<=r by omega)]at g2;cases g2
        rw[hR]at g1
        have:=Ct (d-c) (by omega) r hr row g1
        rw[this]at g2;exact Option.some.inj g2
      have fin: ∀v w' c',Ls cx w (s i).rows (s (i+1)).rows c' w'->Rep c' w' (val i) v->K (a.put o.dst v) w':=by
        intro v w' c' hn hv
        refine hK _ w' c d ⟨hI.cd,hI.dn,λk hk=>by rw[h2 k (by omega)];exact hI.pre k hk,hI.quiet,hI.wr,uJ,?_,?_,hI.gg,hI.ib,c',B,hn.mem,λr=> ?_,λt ht he=> ?_,oJ.step (ks:=[]) (λk hk=>by simp [da]at hk) hI.ib hn.toW.toK,λk hk pd=>(ov k hk (by rw[<-h2 k (by omega)];exact pd)).dv hn.toW.toK (by omega) ho,λk j hk hj pd IL e=>o8 k j hk hj (by rw[<-h2 k (by omega)];exact pd) (by rw[<-h2 j (by omega)];exact IL) e⟩
        . cases hd:o.dst<;>simp [Act.put]<;>exact hI.size
        . first|exact mH.put (hI.defers.step hm hn.fr)|exact mH.put (hI.defers.step hm hn.toW.fr)
        . rw[hn.rows,hR,Yh rA h0 h1 h2 (d:=d) (λk nL so=>hlen (i+1) k (by omega) (by omega) (by omega)) (by omega) (by omega)]
        . have hl: ∀k o',i<k->dt k=true->ops[k]? =some o'->o'.dst=some t->o.dst=some t->False:=by
            intro k o' oK hk dx Ok Yl
            rcases(GN lZ oK ho dx).1 with uK|hb
            . exact(G9 uK).1 Yl Ok
            . have:=oI _ _ hk hb
              rw[h0]at this;cases this
          rw[Yg ho rA h0 h1 h2 hl (by omega)]
          have hold:=AN hn.cz (hE t (λk o' hk hl dx=>ht k o' hk (by rw[h2 k (by omega)];exact hl) dx) (λk o' hk hl dx=>he k o' hk (by rw[h2 k (by omega)];exact hl) dx))
          refine Xj hI.size (λu=>hc.dst i o u ho) (λhd=>by rw[if_pos hd];exact hv) (λhd=>by rw[if_neg hd];exact hold)
      have skip:val i= .dw []->(s (i+1)).rows=(s i).rows->K (a.put o.dst undef) w:=λe1 e2=>
        fin undef w cx ⟨hm,ju.refl _ _,Fr.refl _ _,λb hb=> .inl hb,λr=>by rw[e2,if_neg (by omega)],λ_ _=>⟨rfl,Iff.rfl⟩,λr g1 g2=>by rw[e2]at g2;omega⟩ (by rw[e1];exact UB _ _)
      have run:ry P G M o (cw (s i).env) (s i).rows (ks i) (val i) (s (i+1)).rows->o.nM P a w K Q:=λhX=>by
        unfold ry at hX
        rw[Ow]at hX
        refine hX.2.2 cx w a hm jD pJ (λr g1 g2=>by rw[hR];exact Cu (d-c) (by omega) r g1 g2) (λx hx=> ?_) K Q fin
        cases x with
        | tmp t=>
          refine Ox t ?_
          unfold Oper.looksAt
          exact fF _ (List.mem_filterMap.2 ⟨.tmp t,by simpa using hx,rfl⟩)
        | const v=>
          simp only[cw,Act.eval]
          cases hv:Zn v with
          |none=>trivial
          |some d=>exact Oy hv cx w
        |global g=>trivial
        |func f=>exact Lv f
      have hG:=hc.op i o ho
      unfold wpOp
      simp only[ho]
      unfold oc at hG
      cases hg:o.guard with
      | none=>
        simp only[hg]at hG
        have hw:Region.wanted o (yielded ops a.tmps)=true:=by simp [Region.wanted,hg]
        rw[if_pos hw]
        exact run hG
      | some jw=>
        obtain⟨j,want⟩:=jw
        simp only[hg]at hG
        obtain⟨g,g2,hG⟩:=hG
        have hr:=Ox g (by
          unfold Oper.looksAt
          refine fK _ ?_
          simp only[hg,g2];simp)
        rcases hG with⟨b,g3,g4⟩|⟨g3,_,e1,e2⟩
        rotate_left
        . rw[g3]at hr
          rw[if_neg (by rw[UC (o:=o) hg g2 hr];simp)]
          exact skip e1 e2
        rw[g3]at hr
        have hw:=UD (o:=o) hg g2 hr
        by_cases e':b=want
        . rw[if_pos e']at g4
          rw[if_pos (by rw[hw];simpa using e')]
          exact run g4
        . rw[if_neg e']at g4
          rw[if_neg (by rw[hw];simpa using e')]
          exact skip g4.2.1 g4.2.2
  ·
    have Yb:i<c:=by omega
    rcases hI.pre i Yb with h|h
    . rw[h0]at h;cases h
    have Td: ∀b,lM ops i b=true->(∀k,i<k->k<c->ks k=[])->ks i=[]->look (s c).env b=look (s i).env b:=by
      intro b hb q8 q9
      have: ∀k,i<=k->k<=c->look (s k).env b=look (s i).env b:=by
        intro k
        induction k with
        |zero=>intro h1 _;rw[show i=0 by omega]
        | succ k ih=>
          intro h1 h2
          by_cases e':i=k+1
          . rw[e']
          . have dx:ops[k]? =some ops[k]:=aU (by omega)
            rw[hc.env k _ b dx,if_neg (KZ hb (by omega) dx)]
            by_cases e2:k=i
            . rw[e2,q9,pq]
            . rw[q8 k (by omega) (by omega),pq];exact ih (by omega) (by omega)
      exact this c (by omega) (aX _)
    have o5: ∀b,lM ops i b=true->b∈o.looksAt ops->Rep cx w (look (s c).env b) (a.tmps.getD b undef):=λb hnb hlb=>by
      have:=hE b (λk o' hk hl dx hd=>by
        by_cases Yk:k<i
        . rw[seen k o' b Yk dx hd hlb]at hl;cases hl
        . exact KZ hnb (by omega) dx hd) (λk o' hk hl dx=>Ef k o' b hk hl dx hlb hid)
      rwa [Z4h hc (λk o' hk dx hd=>(KZ hnb (by omega) dx hd).elim)]at this
    obtain ⟨q2,q8,hN,Ea⟩:o.guard=none/\((∀k,i<k->k<c->ks k=[])\/ ∀t,o.dst=some t->lM ops (i+1) t=true/\wJ (look (s ops.size).env t)=true)/\rC P o (cw (s c).env) (s c).rows (val i) (s c).rows/\ ∀x∈o.op.operands,Rep cx w (cw (s c).env x) (a.eval x):=by
      rcases h with⟨o',t0,b,r,ii,off,row,aq,q1,q2,q3,q4,q5,q6,q7,q8⟩|⟨o',q,q1,q2,q3,q4,q8⟩
      . rw [ho]at q1;cases q1
        have hpc:look (s c).env b= .ptr r ii off:=Ff hc q4 q5 (by omega) (by omega)
        have hpi:look (s i).env b= .ptr r ii off:=Ff hc q4 q5 (by omega) (by omega)
        have tT:=(hc.nf i o ho).ld t0 b r ii off q2 q3 hpi
        have ez:cw (s c).env (.tmp b)= .ptr r ii off:=by simp [cw,hpc]
        have q9:((∀k,i<k->k<c->ks k=[])\/ ∀t,o.dst=some t->lM ops (i+1) t=true/\wJ (look (s ops.size).env t)=true)/\rC P o (cw (s c).env) (s c).rows (val i) (s c).rows:=by
          rcases q8 with⟨e8,q8⟩|⟨⟨td,d1,d2,d3⟩,L,e8,hL⟩
          . subst e8
            exact⟨.inl q8,tT.2.2.2.1 (cw (s c).env) (s c).rows ez (by rw[q6,q7])⟩
          . refine⟨.inr λt ht=>by rw[d1]at ht;cases ht;exact⟨d2,S3 d3⟩,tT.2.2.2.2 (cw (s c).env) (s c).rows row L ?_ (λkk hk=> ?_) ez q6 (by rw[q7,e8])⟩
            rotate_left
            . obtain⟨j,j1,j2,rfl⟩:=hL kk hk
              have h5:=Fg hc d2 (S3 d3) (aX _) (show i+1<=ops.size by omega)
              have h6:=hc.env i o td ho
              rw[if_pos d1,h5]at h6
              have g1:=Fg hc d2 (S3 d3) (show i+1<=j by omega) (show j<=ops.size by omega)
              have g2:=Fg hc d2 (S3 d3) (show i+1<=j+1 by omega) (show j+1<=ops.size by omega)
              have dx:ops[j]? =some ops[j]:=aU (by omega)
              rw[hc.env j _ td dx,if_neg (KZ d2 (by omega) dx),CD,g1,Zye d3]at g2
              rw[<-h6];exact g2
            have h5:=Fg hc d2 (S3 d3) (aX _) (show i+1<=ops.size by omega)
            have h6:=hc.env i o td ho
            rw[if_pos d1]at h6
            rw[<-h6,h5];exact d3
        refine⟨q2,q9.1,q9.2,λx hx=> ?_⟩
        have j5:x= .tmp b:=by simpa [q3,Op.operands] using hx
        rw[j5]
        refine o5 b q4 ?_
        unfold Oper.looksAt
        exact fF _ (List.mem_filterMap.2 ⟨.tmp b,by rw[q3];simp [Op.operands],rfl⟩)
      . rw [ho]at q1;cases q1
        have tT:=(hc.nf i o ho).pu q q2 (Zkt hc q3 q4 (aX _) (by omega))
        refine⟨q2,q8.imp id λg t ht=>⟨(g.2 t ht).1,(g.2 t ht).2⟩,tT.2.2 (cw (s c).env) (s c).rows (λx hx=> ?_),λy hy=> ?_⟩
        . cases x with
          | tmp b=>
            rcases q8 with q8|q8
            . exact Td b (q4 b (Zc2 q3 hx)) q8 tT.1
            . obtain⟨g1,g2⟩:=q8.1 b (Zc2 q3 hx)
              show look (s c).env b=look (s i).env b
              rw[Fg hc g1 g2 (by omega) (by omega),Fg hc g1 g2 (aX _) (by omega)]
          |_=>rfl
        . cases y with
          | tmp b=>
            refine o5 b (q4 b (Zc2 q3 hy)) ?_
            unfold Oper.looksAt
            exact fF _ (List.mem_filterMap.2 ⟨.tmp b,by simpa using hy,rfl⟩)
          | const v=>
            simp only[cw,Act.eval]
            cases hv:Zn v with
            |none=>trivial
            |some d=>exact Oy hv cx w
          |global g=>trivial
          |func f=>exact Lv f
    have pJ:mN cx (s c).rows:=λr' SQ jS g1 g2=>by
      have hr:r'<(s c).rows.length:=by
        by_cases h:r'<(s c).rows.length
        . exact h
        . simp only[aV,aJ (show(s c).rows.length<=r' by omega)]at g2;cases g2
      rw[hR,Zoa hc hI.quiet I7 hr (by omega),g2]at g1
      exact(Option.some.inj g1).symm
    have fin: ∀v w' c',Ls cx w (s c).rows (s c).rows c' w'->Rep c' w' (val i) v->K (a.put o.dst v) w':=by
      intro v w' c' hn hv
      refine hK _ w' c d ⟨Yp,I7,λk hk=> ?_,hI.quiet,hI.wr,uJ,?_,?_,hI.gg,hI.ib,c',B,hn.mem,λr'=> ?_,λt ht he=> ?_,oJ.step (ks:=[]) (λk hk=>by simp [da]at hk) hI.ib hn.toW.toK,λk hk pd=>(ov k hk (by rw[<-h2 k (by omega)];exact pd)).dv hn.toW.toK (by omega) ho,λk j hk hj pd IL e=>o8 k j hk hj (by rw[<-h2 k (by omega)];exact pd) (by rw[<-h2 j (by omega)];exact IL) e⟩
      . by_cases e':k=i
        . rw[e'];exact .inl h1
        . rw[h2 k e'];exact hI.pre k hk
      . cases hd:o.dst<;>simp [Act.put]<;>exact hI.size
      . first|exact mH.put (hI.defers.step hm hn.fr)|exact mH.put (hI.defers.step hm hn.toW.fr)
      . rw[hn.rows,hR,if_neg (by omega),Uz (λk hk=>h2 _ (by omega))]
      . rw [Uy (λk hk=>h2 _ (by omega))]
        refine Xj hI.size (λu=>hc.dst i o u ho) (λhd=> ?_) (λhd=> ?_)
        ·
          have nJ: ∀k o',i<k->ops[k]? =some o'->o'.dst=some t->dt k=false:=λk o' hk dx ra=>by
            cases hl:dt k with
            |false=>rfl
            | true=>
              rcases(GN lZ hk ho dx).1 with uK|hb
              . exact((G9 uK).1 hd ra).elim
              . have:=oI _ _ hl hb
                rw[h0]at this;cases this
          have Jat: ∀k o',i<k->k<c->ops[k]? =some o'->o'.dst≠some t:=λk o' nL so dx ra=>
            ht k o' so (by rw[h2 k (by omega)];exact nJ k o' nL dx ra) dx ra
          rw[Z4h hc (λk o' hk dx ra=>nJ _ o' (by omega) dx ra)]
          have: ∀k,i<k->k<=c->look (s k).env t=val i:=by
            rcases q8 with q8|q8
            rotate_left
            . intro k nL so
              obtain⟨g1,g2⟩:=q8 t hd
              have:=hc.env i o t ho
              rw[if_pos hd]at this
              rw[<-this,Fg hc g1 g2 (by omega) (by omega),Fg hc g1 g2 (aX _) (by omega)]
            intro k
            induction k with
            |zero=>intro h;omega
            | succ k ih=>
              intro nL so
              have dx:ops[k]? =some ops[k]:=aU (by omega)
              by_cases e':k=i
              . subst e'
                rw[ho]at dx
                rw[hc.env k o t ho,if_pos hd]
              . rw[hc.env k _ t dx,if_neg (Jat k _ (by omega) (by omega) dx),q8 k (by omega) (by omega),pq]
                exact ih (by omega) (by omega)
          rw[this c Yb (aX _)]
          exact hv
        . refine AN hn.cz (hE t (λk o' hk hl dx ra=> ?_) (λk o' hk hl dx=>he k o' hk (by rw[h2 k (by omega)];exact hl) dx))
          by_cases e':k=i
          . subst e'
            rw[ho]at dx;cases dx
            exact hd ra
          . exact ht k o' hk (by rw[h2 k e'];exact hl) dx ra
    unfold wpOp
    simp only[ho]
    have hw:Region.wanted o (yielded ops a.tmps)=true:=by simp [Region.wanted,q2]
    rw[if_pos hw]
    exact hN.2 cx w a hm jD pJ (λr' g1 g2=>by omega) Ea K Q fin
theorem Zpb{c d:Nat}(hI:Inv2 P G N M ops s ks val c0 w0 dt a w c d)(jf:∀i,i<ops.size->dt i=true):∃cx,fq N M c0 w0 cx w (s ops.size) a:=by
 obtain⟨cx,B,hm,hR,hE,oJ,ov,o8⟩:=hI.ctx
 have hd:d=ops.size:=by
  by_cases h:d<ops.size
  ·obtain⟨o',t,_,_,g1,_,g3,_⟩:=ov d (aX _) (jf d h)
   have:=hI.wr _ g1
   unfold lO at this
   rw[g3]at this;cases this
  ·have:=hI.dn;omega
 subst hd
 have Yp:=hI.cd
 have hl:∀k,k<ops.size-c->dt (c+k)=true:=λk hk=>jf _ (by omega)
 refine⟨cx,hm,λr=>?_,λt=>?_,hI.size,hI.defers,hI.gg,hI.ib,oJ⟩
 ·rw[hR,Uv hc.toChain hI.quiet hI.dn (by omega) hl,show c+(ops.size-c)=ops.size by omega]
 ·have:=hE t (λk o hk h0 dx=>by rw[jf k (Array.getElem?_eq_some_iff.1 dx).1]at h0;cases h0) (λk o hk _ dx=>by have:=(Array.getElem?_eq_some_iff.1 dx).1;omega)
  rw[Uu hc.toChain hI.quiet hI.dn (by omega) hl]at this
  rwa [show c+(ops.size-c)=ops.size by omega]at this
theorem vz(hQ:∀c w a,fq N M c0 w0 c w (s ops.size) a->Q .normal a w):∀(fuel:Nat) (av:Array Bool) (a:Act) (w:World) (c d:Nat),av.size=ops.size->ny (λi=>av.getD i false) ops.size<=fuel->
 Inv2 P G N M ops s ks val c0 w0 (λi=>av.getD i false) a w c d->I9 P .any ops Q fuel av a w:=by
 intro fuel
 have BG:∀(av:Array Bool) (i:Nat),av.size=ops.size->(i∈Region.ready .any ops av↔ ∃o,ops[i]?=some o/\av.getD i false=false/\∀e∈o.after,Region.binds .any e=true->av.getD e.on false=true):=by
  intro av i ga
  unfold Region.ready
  rw[iA,iB]
  constructor
  ·rintro⟨h1,h2⟩
   have ho:ops[i]?=some ops[i]:=aU h1
   simp only[ho,bA,aR,aE,bB]at h2
   refine⟨_,ho,?_,λe he hb=>?_⟩
   ·have hl:i<av.size:=by omega
    have:=h2.1
    simpa[aY,hl]using this
   ·have:=Array.all_eq_true'.1 h2.2 e he
    simpa[hb]using this
  ·rintro⟨o,ho,h1,h2⟩
   have bc:=(Array.getElem?_eq_some_iff.1 ho).1
   refine⟨bc,?_⟩
   simp only[ho,bA,aR,aE,bB]
   have hl:i<av.size:=by omega
   refine⟨by simpa[aY,hl]using h1,Array.all_eq_true'.2 λe he=>?_⟩
   cases hb:Region.binds .any e with
   |false=>rfl
   |true=>simpa[hb]using h2 e he hb
 have kK:∀(av:Array Bool),av.size=ops.size->Region.ready .any ops av=[]->∀i,i<ops.size->av.getD i false=true:=by
  intro av ga he i
  induction i using Nat.strongRecOn with
  |_ i ih=>
   intro hi
   cases hl:av.getD i false with
   |true=>rfl
   |false=>
    exfalso
    have ho:ops[i]?=some ops[i]:=aU hi
    have:i∈Region.ready .any ops av:=(BG av i ga).2 ⟨_,ho,hl,λe AL hb=>by
     have:=Zpr lZ ho e AL hb
     exact ih e.on this (by omega)⟩
    rw[he]at this;cases this
 induction fuel with
 |zero=>
  intro av a w c d ga Cv hI
  have jf:=Yn (dt:=λi=>av.getD i false) (Nat.le_zero.1 Cv)
  refine⟨?_,?_⟩
  ·rw[List.eq_nil_iff_forall_not_mem]
   intro i hi
   obtain⟨o,ho,h1,_⟩:=(BG av i ga).1 hi
   have:=jf i (Array.getElem?_eq_some_iff.1 ho).1
   rw[h1]at this;cases this
  ·obtain⟨cx,hs⟩:=Zpb hc lZ hI jf
   exact hQ cx w a hs
 |succ fuel ih=>
  intro av a w c d ga Cv hI
  refine⟨λhe=>?_,λi hi=>?_⟩
  ·obtain⟨cx,hs⟩:=Zpb hc lZ hI (kK av ga he)
   exact hQ cx w a hs
  ·obtain⟨o,ho,h1,h2⟩:=(BG av i ga).1 hi
   have bc:=(Array.getElem?_eq_some_iff.1 ho).1
   have sP:(av.setIfInBounds i true).getD i false=true:=by
    have hl:i<av.size:=by omega
    simp[aY,hl]
   have sQ:∀k,k≠i->(av.setIfInBounds i true).getD k false=av.getD k false:=λk hk=>by
    rw[aQ,aZ (Ne.symm hk),<-aQ]
   refine yz hc lZ (gj:=λk=>(av.setIfInBounds i true).getD k false) hI ho h1 sP sQ h2 λa' w' c' d' Yq=>?_
   refine ih _ a' w' c' d' (by simpa using ga) ?_ Yq
   have:=Yo (dt:=λk=>av.getD k false) (gj:=λk=>(av.setIfInBounds i true).getD k false) h1 sP sQ bc
   omega
end
theorem BG{av:Array Bool}(ga:av.size=ops.size):i∈Region.ready .any ops av↔ ∃o,ops[i]?=some o/\av.getD i false=false/\∀e∈o.after,Region.binds .any e=true->av.getD e.on false=true:=by
 unfold Region.ready
 rw[iA,iB]
 constructor
 ·rintro⟨h1,h2⟩
  have ho:ops[i]?=some ops[i]:=aU h1
  simp only[ho,bA,aR,aE,bB]at h2
  refine⟨_,ho,?_,λe he hb=>?_⟩
  ·have hl:i<av.size:=by omega
   have:=h2.1
   simpa[aY,hl]using this
  ·have:=Array.all_eq_true'.1 h2.2 e he
   simpa[hb]using this
 ·rintro⟨o,ho,h1,h2⟩
  have bc:=(Array.getElem?_eq_some_iff.1 ho).1
  refine⟨bc,?_⟩
  simp only[ho,bA,aR,aE,bB]
  have hl:i<av.size:=by omega
  refine⟨by simpa[aY,hl]using h1,Array.all_eq_true'.2 λe he=>?_⟩
  cases hb:Region.binds .any e with
  |false=>rfl
  |true=>simpa[hb]using h2 e he hb
theorem qA{r:Nat}:∀{l:List Nat} {k:Nat},r∉l->pos r l k=k+l.length
 |[],k,_=>rfl
 |x::l,k,h=>by
  simp only[List.mem_cons,not_or]at h
  simp only[pos]
  cases hb:Nat.beq x r with
  |true=>exact(h.1 (bE hb).symm).elim
  |false=>show pos r l (k+1)=_;rw[qA h.2];simp;omega
section
variable {p:List Nat} {ops:Array Oper} (hp:Xk p ops.size=true)
include hp
theorem Xl:p.length=ops.size/\(∀i,i<ops.size->i∈p)/\(∀i∈p,i<ops.size)/\p.Nodup:=by
 unfold Xk at hp
 simp only[aE]at hp
 obtain⟨h1,h2,h3,h4⟩:=hp
 exact⟨bE h1,λi hi=>oy.1 (List.all_eq_true.1 h2 i (List.mem_range.2 hi)),λi hi=>lE (List.all_eq_true.1 h3 i hi),NA.1 h4⟩
theorem IN(hi:i<ops.size):pos i p 0<ops.size/\p[pos i p 0]?=some i:=by
 obtain⟨h1,h2,h3,h4⟩:=Xl hp
 have:=Ca (h2 i hi)
 exact⟨by have:=(List.getElem?_eq_some_iff.1 this).1;omega,this⟩
theorem Zp2(h:pos i p 0<ops.size):i<ops.size:=by
 obtain⟨h1,h2,h3,h4⟩:=Xl hp
 by_cases hm:i∈p
 ·exact h3 i hm
 ·rw[qA hm]at h;omega
theorem Qvt:(nX p ops).size=ops.size:=by
 obtain⟨h1,_⟩:=Xl hp
 simp[nX,h1]
theorem Xm(hk:p[k]?=some i)(ho:ops[i]?=some o):(nX p ops)[k]?=some (NV p o):=by
 have:ops.getD i default=o:=by
  have bc:=(Array.getElem?_eq_some_iff.1 ho).1
  have:=(Array.getElem?_eq_some_iff.1 ho).2
  simp[aY,bc,this]
 simp[nX,hk,ho]
theorem Zns(tmps:Array Value)(j:Nat):yielded (nX p ops) tmps (pos j p 0)=yielded ops tmps j:=by
 by_cases hj:j<ops.size
 ·have ho:ops[j]?=some ops[j]:=aU hj
  have h1:=Xm hp (IN hp hj).2 ho
  simp only[yielded,h1,ho,aW]
  rfl
 ·have h1:ops[j]?=none:=iC (by omega)
  have h2:(nX p ops)[pos j p 0]?=none:=by
   refine iC ?_
   rw[Qvt hp]
   by_cases h:pos j p 0<ops.size
   ·exact(hj (Zp2 hp h)).elim
   ·omega
  simp only[yielded,h1,h2,Option.bind_none]
theorem Zsb(tmps:Array Value):Region.wanted (NV p o) (yielded (nX p ops) tmps)=Region.wanted o (yielded ops tmps):=by
 unfold Region.wanted NV
 cases hg:o.guard with
 |none=>rfl
 |some jw=>obtain⟨j,w⟩:=jw;simp only[Zns hp]
theorem xA{K K':Act->World->Prop}(hi:i<ops.size)(hK:∀a w,K' a w->K a w)(h:wpOp P (nX p ops) Q (pos i p 0) K' a w):wpOp P ops Q i K a w:=by
 have ho:ops[i]?=some ops[i]:=aU hi
 have h1:=Xm hp (IN hp hi).2 ho
 unfold wpOp at h⊢
 simp only[ho]
 simp only[h1,Zsb hp]at h
 split at h
 ·rename_i hw
  rw[if_pos hw]
  exact YA (Q:=Q) hK h
 ·rename_i hw
  rw[if_neg hw]
  exact hK _ _ h
theorem Zx3:∀(fuel:Nat) (av fh:Array Bool) (a:Act) (w:World),av.size=ops.size->fh.size=ops.size->(∀i,i<ops.size->fh.getD (pos i p 0) false=av.getD i false)->
 I9 P .any (nX p ops) Q fuel fh a w->I9 P .any ops Q fuel av a w:=by
 have ga:=Qvt hp
 obtain⟨f1,f2,f3,f4⟩:=Xl hp
 have up:∀(av fh:Array Bool) (i:Nat),av.size=ops.size->fh.size=ops.size->(∀i,i<ops.size->fh.getD (pos i p 0) false=av.getD i false)->i∈Region.ready .any ops av->i<ops.size/\pos i p 0∈Region.ready .any (nX p ops) fh:=by
  intro av fh i h1 h2 h3 hi
  obtain⟨o,ho,g1,g2⟩:=(BG h1).1 hi
  have bc:=(Array.getElem?_eq_some_iff.1 ho).1
  refine⟨bc,(BG (by rw[h2,ga])).2 ⟨_,Xm hp (IN hp bc).2 ho,by rw[h3 i bc];exact g1,λe he hb=>?_⟩⟩
  simp only[NV,iD]at he
  obtain⟨e',AL,rfl⟩:=he
  have:=g2 e' AL hb
  have Ly:e'.on<ops.size:=by
   by_cases h:e'.on<ops.size
   ·exact h
   ·rw[aY,dif_neg (by omega)]at this;cases this
  show fh.getD (pos e'.on p 0) false=true
  rw[h3 _ Ly];exact this
 have down:∀(av fh:Array Bool) (k:Nat),av.size=ops.size->fh.size=ops.size->(∀i,i<ops.size->fh.getD (pos i p 0) false=av.getD i false)->k∈Region.ready .any (nX p ops) fh->∃i,i∈Region.ready .any ops av:=by
  intro av fh k h1 h2 h3 hk
  obtain⟨o',jI,g1,g2⟩:=(BG (by rw[h2,ga])).1 hk
  have bc:=(Array.getElem?_eq_some_iff.1 jI).1
  rw[ga]at bc
  have Cb:p[k]?=some p[k]:=List.getElem?_eq_getElem (by omega)
  have hi:=f3 _ (gC Cb)
  have ho:ops[p[k]]?=some ops[p[k]]:=aU hi
  have Te:pos p[k] p 0=k:=by
   have:=(IN hp hi).2
   exact(List.getElem?_inj (by have:=(IN hp hi).1;omega) f4).1 (this.trans Cb.symm)
  have h4:=Xm hp Cb ho
  rw[jI]at h4;cases h4
  refine⟨p[k],(BG h1).2 ⟨_,ho,by rw[<-h3 _ hi,Te];exact g1,λe he hb=>?_⟩⟩
  have:=g2 (Eh p e) (by simp only[NV,iD];exact⟨e,he,rfl⟩) hb
  have this:fh.getD (pos e.on p 0) false=true:=this
  have Ly:pos e.on p 0<ops.size:=by
   by_cases h:pos e.on p 0<ops.size
   ·exact h
   ·rw[aY,dif_neg (by omega)]at this;cases this
  rw[<-h3 _ (Zp2 hp Ly)];exact this
 intro fuel
 induction fuel with
 |zero=>
  intro av fh a w h1 h2 h3 h
  refine⟨?_,h.2⟩
  cases hr:Region.ready .any ops av with
  |nil=>rfl
  |cons i l=>
   have:=(up av fh i h1 h2 h3 (by rw[hr];simp)).2
   rw[h.1]at this;cases this
 |succ fuel ih=>
  intro av fh a w h1 h2 h3 h
  refine⟨λhe=>h.1 ?_,λi hi=>?_⟩
  ·cases hr:Region.ready .any (nX p ops) fh with
   |nil=>rfl
   |cons k l=>
    obtain⟨i,hi⟩:=down av fh k h1 h2 h3 (by rw[hr];simp)
    rw[he]at hi;cases hi
  ·obtain⟨bc,iT⟩:=up av fh i h1 h2 h3 hi
   refine xA hp bc (λa' w' hk=>ih _ _ a' w' (by simpa using h1) (by simpa using h2) (λk hk=>?_) hk) (h.2 _ iT)
   have hpi:=(IN hp bc)
   have Cb:=(IN hp hk)
   have gs:∀(A:Array Bool) (x y:Nat),x<A.size->(A.setIfInBounds x true).getD y false=if x=y then true else A.getD y false:=λA x y hx=>by
    simp only[aQ,Array.getElem?_setIfInBounds]
    split
    ·rename_i e;subst e;simp[hx]
    ·rfl
   rw[gs _ _ _ (by omega),gs _ _ _ (by omega)]
   by_cases e:i=k
   ·subst e;simp
   ·have ia:pos i p 0≠pos k p 0:=λe'=>by
     have:=Cb.2
     rw[<-e',hpi.2]at this
     exact e (Option.some.inj this)
    rw[if_neg e,if_neg ia];exact h3 k hk
end
theorem Zui{ro:Option Nat}(hm:P.follows .mixedOrders=true){N M id:Nat}{Q:Ex->St->Prop}(hT:jC P T)(hG:jU P G){p:List Nat}(hp:Xk p ops.size=true)(h:mG T G N M (nX p ops) (nX p ops).toList st λst=>cy (S6 G (nX p ops) st.env) (Q .normal st)):uL ro P N M (.region id ops true) st Q:=by
 intro c0 w0 c w a hs
 have hs:=hs.drew
 refine Z2 hm ?_
 refine Zx3 hp ops.size _ (gX ops.size false) a _ (by simp) (by simp) (λi hi=>by simp[aY,(IN hp hi).1,hi]) ?_
 obtain⟨s,ks,val,h1,h2,h3,h4,h5,h6⟩:=Zn8 hT hG (nX p ops).toList 0 st (by simp) h
 have hc:Xi P G N M (nX p ops) s ks val:=⟨⟨λi o ho=>h3 i o (bC _) ho,λi o t ho=>h4 i o t (bC _) ho,λi o t ho=>h5 i o t (bC _) ho⟩,λi o ho=>h6 i o (bC _) ho⟩
 have ga:s (0+(nX p ops).toList.length)=s (nX p ops).size:=by simp
 rw[ga]at h2
 obtain⟨hd,h2⟩:=de.1 h2
 have lL:=Qvt hp
 obtain⟨d,g1,g2,g3,g4⟩:=Ou G (nX p ops) _ 0 rfl (bC _)
 have hz:∀i,(gX (nX p ops).size false).getD i false=false:=λi=>by
  by_cases h:i<(nX p ops).size
  ·simp[aY,h]
  ·simp[aY,h]
 rw[<-lL]
 refine vz hc hd (Q:=λe a' w'=>∃ex jJ c',nz e=some ex/\Q ex jJ/\fq N M c0 w0 c' w' jJ a') (λc w a jk=>⟨_,_,c,rfl,h2,jk⟩) (nX p ops).size _ a _ 0 d (by simp) (Ym _ _)
  ⟨g1,g2,λi hi=>by omega,g3,g4,λj hj=>by simp[hz]at hj,hs.size,hs.defers,hs.gg,hs.ib,c,λ_=>0,hs.mem,λr=>?_,λt _ _=>?_,hs.reach,λi _ hl=>by simp[hz]at hl,λi j _ _ hl=>by simp[hz]at hl⟩
 ·rw[Ux (λi _=>hz _),h1];exact hs.rows r
 ·rw[Uw (λi _=>hz _),h1];exact hs.env t
theorem zA(hm:P.follows .mixedOrders=true):rm P:=by
 intro ro T G N M id ops st Q hT hG h
 unfold wG at h
 split at h
 ·rename_i hd
  exact xa hm ro T G N M id ops st Q hT hG hd h
 ·obtain⟨h1,h2⟩:=de.1 h
  exact Zui hm hT hG h1 h2
