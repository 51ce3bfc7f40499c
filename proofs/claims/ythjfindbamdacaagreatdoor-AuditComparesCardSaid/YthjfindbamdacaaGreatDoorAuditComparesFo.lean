import Derived.Test.YthjfindbamdacaaGreatDoorAuditComparesFp
open List renaming getD->aK,getElem?_eq_none->aM,getElem?_append_left->aZ,getElem?_take->aU,getElem?_drop->fU,getElem?_eq_getElem->cG,getElem?_toArray->aY,map_cons->fS,map_toArray->bR,mem_cons->cR,mem_map->gB,mem_of_getElem?->fX,length_nil->dJ,drop_zero->gC
open Nat renaming le_refl->aO,zero_add->aX,add_assoc->fZ
open Option renaming getD_some->aG
open Bool renaming false_eq_true->aN
open Array renaming toArray_toList->bS,extract_eq_self_of_le->gA
set_option linter.all false
namespace Go.GD
open Go
structure JN(c:Ctx)(w:World)(R R':Rows)(c':Ctx)(w':World):Prop where
 mem:Mem c' w'
 bz:jf c w c' w'
 fr:Fr (λ_=>False) w w'
 fh:∀b,c'.I b->c.I b\/w.heap.size<=b
 rows:∀r,c'.R r=if R.length<=r/\r<R'.length then R'.getD r none else c.R r
 ju:∀r,r<R.length\/R'.length<=r->c'.ρ r=c.ρ r/\(c'.V r↔c.V r)
 new:∀r,R.length<=r->r<R'.length->¬c'.V r->w.heap.size<=c'.ρ r
structure lu(c:Ctx)(w:World)(c':Ctx)(w':World):Prop where
 mem:Mem c' w'
 bz:jf c w c' w'
 fr:Fr (λb=>∃r x,c.R r=some x/\¬c.V r/\c.ρ r=b) w w'
 fh:∀b,c'.I b->c.I b\/w.heap.size<=b
 nS:∀r ao,c'.R r=some ao->¬c'.V r->((∃row,c.R r=some row)/\¬c.V r/\c'.ρ r=c.ρ r)\/w.heap.size<=c'.ρ r
def Pf(P:Program)(o:Oper)(a:Act)(next:Act->World->Prop):Result Next->Prop
 |.ok (.value v) w'=>next (a.put o.dst v) w'
 |.ok .skip w'=>next (a.put o.dst undef) w'
 |.ok (.enter f args) w'=>Calls P f args w' λe EY=>∃v,e=.returned v/\next (a.put o.dst v) EY
 |.ok (.round l f tmps assign body) w'=>RoundIn Fence.wide 0 P l f tmps assign body w' λe EY=>∃v,e=.returned v/\next (a.put o.dst v) EY
 |_=>False
def _root_.Go.Oper.mN(P:Program)(o:Oper)(a:Act)(w:World)(next:Act->World->Prop)(_:Exit->Act->World->Prop):Prop:=Pf P o a next ((execOp a.eval o).run P w)
theorem FH{P:Program}{o:Oper}{a:Act}{w w':World}{u:Value}{K:Act->World->Prop}{Q:Exit->Act->World->Prop}(h:(execOp a.eval o).run P w=.ok (.value u) w')(hK:K (a.put o.dst u) w'):o.mN P a w K Q:=by
 unfold Oper.mN;rw[h];exact hK
theorem zQ{P:Program}{o:Oper}{a:Act}{w w':World}{K:Act->World->Prop}{Q:Exit->Act->World->Prop}(h:(execOp a.eval o).run P w=.ok .skip w')(hK:K (a.put o.dst undef) w'):o.mN P a w K Q:=by
 unfold Oper.mN;rw[h];exact hK
theorem Vz{P:Program}{o:Oper}{a:Act}{w:World}{K K':Act->World->Prop}{Q Q':Exit->Act->World->Prop}(h:∀a w,K a w->K' a w)(hh:o.mN P a w K Q):o.mN P a w K' Q':=by
 unfold Oper.mN at hh⊢
 revert hh
 generalize(execOp a.eval o).run P w=r
 intro hh
 cases r with
 |halt _ _=>exact hh.elim
 |ok n w'=>
  cases n with
  |value v=>exact h _ _ hh
  |skip=>exact h _ _ hh
  |enter f args=>exact Calls.mono hh λe w' ⟨v,he,hk⟩=>⟨v,he,h _ _ hk⟩
  |round l f tmps assign body=>exact RoundIn.mono hh λe w' ⟨v,he,hk⟩=>⟨v,he,h _ _ hk⟩
  |_=>exact hh.elim
def pn(P:Program)(o:Oper)(ev:Operand->D)(R:Rows)(val:D)(R':Rows):Prop:=
 (∃news,R'=R++news)/\∀(c:Ctx) (w:World) (a:Act),Mem c w->c.base<=w.heap.size->mf c R->(∀r,R.length<=r->r<R'.length->c.R r=none)->(∀x∈o.op.operands,Rep c w (ev x) (a.eval x))->
  ∀K Q,(∀v w' c',JN c w R R' c' w'->Rep c' w' val v->K (a.put o.dst v) w')->o.mN P a w K Q
def Ee(P:Program)(o:Oper)(ev:Operand->D)(R:Rows)(val:D)(R':Rows):Prop:=
 ∀ (c:Ctx) (w:World) (a:Act),Mem c w->c.base<=w.heap.size->(∀r,c.R r=R.getD r none)->(∀x∈o.op.operands,Rep c w (ev x) (a.eval x))->
  ∀K Q,(∀v w' c',lu c w c' w'->(∀r,c'.R r=R'.getD r none)->Rep c' w' val v->K (a.put o.dst v) w')->o.mN P a w K Q
theorem pn.toW{P:Program}{o:Oper}{ev:Operand->D}{R:Rows}{val:D}{R':Rows}(h:pn P o ev R val R'):Ee P o ev R val R':=by
 obtain⟨⟨news,hn⟩,h⟩:=h
 intro c w a hm hb hR eg K Q hK
 refine h c w a hm hb (λr row ao h1 h2=>by rw[hR,h2]at h1;exact(Option.some.inj h1).symm) (λr h1 _=>by rw[hR];simp[aK,aM h1]) eg K Q λv w' c' hs hr=>?_
 refine hK v w' c' ⟨hs.mem,hs.bz,hs.fr.mono (λb _ hf=>hf.elim),hs.fh,λr ao nc hv=>?_⟩ (λr=>?_) hr
 ·by_cases h1:R.length<=r/\r<R'.length
  ·exact .inr (hs.new r h1.1 h1.2 hv)
  ·rw[hs.rows,if_neg h1]at nc
   obtain⟨h2,h3⟩:=hs.ju r (by omega)
   exact .inl ⟨⟨_,nc⟩,λe=>hv (h3.2 e),h2⟩
 ·rw [hs.rows,hR]
  split
  ·rfl
  ·rename_i h1
   subst hn
   by_cases h2:r<R.length
   ·simp[aK,aZ h2]
   ·have h3:(R++news).length<=r:=by omega
    simp[aK,aM h3,aM (show R.length<=r by omega)]
theorem my{P:Program}{o:Oper}{ev:Operand->D}{R:Rows}{val:D}(h:∀(c:Ctx) (w:World) (a:Act),Mem c w->mf c R->(∀x∈o.op.operands,Rep c w (ev x) (a.eval x))->∃u,(execOp a.eval o).run P w=.ok (.value u) w/\Rep c w val u):pn P o ev R val R:=by
 refine⟨⟨[],by simp⟩,λc w a hm hb hA _ eg K Q hK=>?_⟩
 obtain⟨u,hu,hr⟩:=h c w a hm hA eg
 exact FH hu (hK u w c ⟨hm,jf.refl c w,Fr.refl _ w,λb hb=>.inl hb,λr=>by rw[if_neg (by omega)],λ_ _=>⟨rfl,Iff.rfl⟩,λr h1 h2=>by omega⟩ hr)
theorem TN{P:Program}{o:Oper}{ev:Operand->D}{R:Rows}{val:D}{row:Row}(h:∀(c:Ctx) (w:World) (a:Act),Mem c w->mf c R->(∀x∈o.op.operands,Rep c w (ev x) (a.eval x))->
 ∃x:Sem Value,execOp a.eval o=(do pure (.value (<-x)))/\TO P x w c R.length row val):pn P o ev R val (R++[some row]):=by
 refine⟨⟨[some row],rfl⟩,λc w a hm hb hA ey eg K Q hK=>?_⟩
 obtain⟨x,hx,u,arr,hu,hi,hr⟩:=h c w a hm hA eg
 have hk:c.R R.length=none:=ey R.length (aO _) (by simp)
 have gz:(execOp a.eval o).run P w=.ok (.value u) (w.alloc (.cells arr row.ty)):=by
  rw[hx,Sem.run_bind,hu];rfl
 refine FH gz (hK u _ (c.add R.length row w.heap.size) ⟨hm.alloc hk row arr hi.1 hi.2,jf.alloc hm hk row _,Fr.alloc _ w _,λb hb=>.inl hb,λr=>?_,λr hr=>?_,λr h1 h2 _=>?_⟩ (hr hk hm))
 ·by_cases e:r=R.length
  ·subst e
   simp[Ctx.add,aK]
  ·have:¬(R.length<=r/\r<(R++[some row]).length):=by simp;omega
   rw[if_neg this]
   simp[Ctx.add,e]
 ·have:r≠R.length:=by simp at hr;omega
  simp[Ctx.add,this]
 ·have:r=R.length:=by simp at h2;omega
  simp[Ctx.add,this]
def FG:Op->Bool|.store _ _ _=>true|_=>false
theorem Zns{c:Ctx}{w:World}{cs:List D}{vs:List Value}(h:jh c w cs vs)(o n:Nat):jh c w ((cs.drop o).take n) ((vs.drop o).take n):=by
 rw[DL]at h⊢
 obtain⟨h1,h2⟩:=h
 refine⟨by simp[h1],λj v hv=>?_⟩
 simp only[aU,fU]at hv
 split at hv
 ·rename_i hj
  have:=h2 (o+j) v hv
  simp only[aK,aU,fU,hj,if_true]at this⊢
  exact this
 ·cases hv
theorem y4{c:Ctx}{w:World}:∀{c9:List pI} {az:List D} {vs:List Value},jh c w az vs->fits c9 az=true->pC vs.toArray 0 az
 |c9,az,vs,h,hf=>by
  intro j d hj
  have cj:=(List.getElem?_eq_some_iff.1 hj).1
  have hl:=h.length
  have hv:vs[j]?=some vs[j]:=cG (by omega)
  have hr:=(DL.1 h).2 j _ hv
  simp only[aK,hj,aG]at hr
  have hs :∀{c9:List pI} {az:List D} {j:Nat},fits c9 az=true->az[j]?=some d->(∃k n,d=.int k n)\/(∃b,d=.bool b)\/∃s,d=.str s:=by
   intro c9
   induction c9 with
   |nil=>intro az j hf hj;cases az<;>simp[fits]at hf;simp at hj
   |cons t ts ih=>
    intro az j hf hj
    cases az with
    |nil=>cases t<;>simp[fits]at hf
    |cons e es=>
     cases t<;>simp only[fits,aE,aN]at hf
     all_goals
      cases j with
      |succ j=>exact ih hf.2 (by simpa using hj)
      |zero=>
       simp at hj
       subst hj
       cases e<;>simp[D.isInt,D.isBool,D.isStr]at hf⊢
  simp only[aX,aY,hv]
  rcases hs hf hj with⟨k,n,rfl⟩|⟨b,rfl⟩|⟨s,rfl⟩<;>(simp only[cu]at hr;rw[hr];rfl)
theorem Ya{c:Ctx}{w:World}:∀{ds:List D} {vs:List Value},jY c w ds vs->∀i,i<ds.length->∃v,vs[i]?=some v/\VRep c w (ds.getD i .dead) v
 |[],[],_,i,h=>by simp at h
 |d::ds,v::vs,h,0,_=>⟨v,rfl,h.1⟩
 |d::ds,v::vs,h,i+1,hi=>by
  obtain⟨u,hu,hr⟩:=Ya h.2 i (by simpa using hi)
  exact⟨u,by simpa using hu,by simpa using hr⟩
 |[],_::_,h,_,_=>h.elim
 |_::_,[],h,_,_=>h.elim
theorem qar{d:D}{x:ij}(h:Ct d=some x):x.d=d:=by
 have go:∀{cs:List ij} {ps:List (Nat×Nat×Nat)},Pg cs=some ps->ps.map HG=cs:=by
  intro cs
  induction cs with
  |nil=>intro ps h;simp[Pg]at h;subst h;rfl
  |cons y l ih=>
   intro ps h
   simp only[Pg]at h
   split at h
   ·rename_i p qs h1 h2
    cases h
    simp only[fS,ih h2]
    cases y<;>simp[G1]at h1
    subst h1;rfl
   ·cases h
 cases d<;>simp only[Ct]at h<;>first|(cases h;done)|skip
 case gb f cs=>
  split at h
  ·rename_i ps hp;cases h;simp only[ij.d,go hp]
  ·cases h
 all_goals(cases h;rfl)
theorem VJ{c:Ctx}{w:World}{ev:Operand->D}{ρ:Operand->Value}:∀{xs:List Operand} {cs:List ij},J2 (xs.map ev)=some cs->(∀x∈xs,Rep c w (ev x) (ρ x))->oz c w cs (xs.map ρ)
 |[],cs,h,_=>by simp[J2]at h;subst h;trivial
 |x ::xs,cs,h,hr=>by
  simp only[fS,J2]at h
  split at h
  ·rename_i y ys h1 h2
   cases h
   refine⟨?_,VJ h2 λz hz=>hr z (by simp[hz])⟩
   have:=hr x (by simp)
   rw[<-qar h1]at this
   rw[Vu]
   cases y<;>exact this
  ·cases h
theorem MC{P:Program}{T:ff}(hT:jt P T)(o:Oper)(ev:Operand->D)(R:Rows)(K:D->Rows->Prop)(h:gu T o.op ev R K):
 ∃val R',K val R'/\(if FG o.op then Ee P o ev R val R' else pn P o ev R val R'):=by
 obtain⟨dst,op,type,pos,after,guard⟩:=o
 simp only at h
 cases op<;>(try simp only[gu]at h)<;>try(exact h.elim)
 case makeFunc fn first captured=>
  cases fn<;>simp only at h<;>try(exact h.elim)
  rename_i f
  simp only[c7,aE]at h
  obtain⟨⟨h0,hy⟩,h⟩:=h
  split at h
  ·rename_i cs hc
   refine⟨_,_,h,my λc w a hm hA eg=>?_⟩
   have hf:first= #[]:=Array.eq_empty_of_size_eq_zero (bE h0)
   subst hf
   refine⟨.func (.func f) #[] (captured.map a.eval),?_,captured.toList.map a.eval,?_,VJ hc λx hx=>eg x (by simp[Op.operands];simpa using hx)⟩
   ·simp only[execOp,Instr.makeFunc,Sem.run_bind,Sem.run_pure,Array.map_empty];rfl
   ·exact .inl ⟨lE hy,by rw[<-bR,bS]⟩
  ·exact h.elim
 case move x=>
  rw[D.cf]at h
  exact⟨_,_,h,my λc w a hm hA eg=>⟨_,rfl,eg x (by simp[Op.operands])⟩⟩
 case assign x=>
  rw[D.cf]at h
  exact⟨_,_,h,my λc w a hm hA eg=>⟨_,rfl,eg x (by simp[Op.operands])⟩⟩
 case alloc t=>
  split at h
  ·rename_i ht
   simp only[c7,aE,MF]at h
   obtain⟨⟨h0,hl⟩,h⟩:=h
   exact⟨_,_,h,TN λc w a hm hA eg=>⟨_,rfl,Zjr hT ht (lE h0) (bE hl) R.length c w⟩⟩
  ·exact h.elim
 case box t x=>
  split at h
  ·rename_i ht
   simp only[c7,aE,MF,D.ez]at h
   obtain⟨⟨⟨h0,hv⟩,hl⟩,h⟩:=h
   exact⟨_,_,h,TN λc w a hm hA eg=>⟨_,rfl,qaI (lE h0) hv (bE hl) R.length c w (eg x (by simp[Op.operands]))⟩⟩
  ·exact h.elim
 case build t parts=>
  obtain⟨val,hK,hr⟩:=zR hT h
  refine⟨_,_,hK,my λc w a hm hA eg=>?_⟩
  obtain⟨u,hu,hx⟩:=hr c w a.eval (λp hp=>eg p.2 (by simp[Op.operands];exact⟨p.1,by simpa using hp⟩))
  refine⟨u,?_,hx⟩
  simp only[execOp]
  rw[Sem.run_bind,show parts.map (λx=>(x.1,a.eval x.2))=(parts.toList.map λp=>(p.1,a.eval p.2)).toArray from by rw[<-bR,bS],hu]
  rfl
 case buildSlice t len parts=>
  obtain⟨val,hK,hr⟩:=Zo5 hT h
  refine⟨_,_,hK,⟨[],by simp⟩,λc w a hm hb hA _ eg K Q hK=>?_⟩
  obtain⟨u,arr,ty,hu,hx⟩:=hr c w a.eval hb (λp hp=>eg p.2 (by simp[Op.operands];exact⟨p.1,by simpa using hp⟩))
  have gz:(execOp a.eval (⟨dst,.buildSlice t len parts,type,pos,after,guard⟩:Oper)).run P w=.ok (.value u) (w.alloc (.cells arr ty)):=by
   simp only[execOp]
   rw[Sem.run_bind,show parts.map (λx=>(x.1,a.eval x.2))=(parts.toList.map λp=>(p.1,a.eval p.2)).toArray from by rw[<-bR,bS],hu]
   rfl
  exact FH gz (hK u _ (c.fh w.heap.size) ⟨xaq hm _,TM hm _,Fr.alloc _ w _,λb hb=>hb.elim .inl (λe=>.inr (by omega)),λr=>by rw[if_neg (by omega)];rfl,λ_ _=>⟨rfl,Iff.rfl⟩,λr h1 h2=>by omega⟩ (hx hm))
 case load t x=>
  obtain⟨val,hK,hr⟩:=Ze7 hT h
  refine⟨_,_,hK,my λc w a hm hA eg=>?_⟩
  obtain⟨u,hu,hx⟩:=hr c w _ hm hA (eg x (by simp[Op.operands]))
  exact⟨u,by simp only[execOp];rw[Sem.run_bind,hu];rfl,hx⟩
 case store t x y=>
  obtain⟨R',hK,hr⟩:=Zmy hT h
  refine⟨_,_,hK,?_⟩
  simp only[FG,if_true]
  intro c w a hm hb hR eg K Q hK
  obtain⟨r,ao,arr,w',gz,XJ,⟨row,cb⟩,hV,hg,kb,jQ⟩:=hr c w _ _ hm hR (eg x (by simp[Op.operands])) (eg y (by simp[Op.operands]))
  refine zQ (w':=w') ?_ (hK undef w' _ ⟨kb,hg,?_,λb hb=>.inl hb,λs ob hs hv=>?_⟩ jQ trivial)
  ·simp only[execOp];rw[Sem.run_bind,gz];rfl
  rotate_left
  ·by_cases e:s=r
   ·exact .inl ⟨⟨row,by rw[e];exact cb⟩,hv,rfl⟩
   ·exact .inl ⟨⟨ob,by simpa[Ctx.jv,e]using hs⟩,hv,rfl⟩
  ·rw[XJ]
   exact(RL w _ arr).mono λb _ e=>⟨r,row,cb,hV,e.symm⟩
 case nilCheck x=>
  have go:∀d,ev x=d->(∃a b c,d=.ptr a b c)\/(∃a b c e,d=.ig a b c e)->K d R->∃val R',K val R'/\pn P ⟨dst,.nilCheck x,type,pos,after,guard⟩ ev R val R':=by
   intro d hd Ph hK
   refine⟨_,_,hK,my λc w a hm hA eg=>?_⟩
   have hx:=eg x (by simp[Op.operands])
   rw[hd]at hx
   have hp:∃q,a.eval x=.pointer (some q):=by
    rcases Ph with⟨r,i,off,rfl⟩|⟨sz,es,i,off,rfl⟩
    ·obtain⟨_,_,_,_,hv⟩:=hx;exact⟨_,hv⟩
    ·obtain⟨_,_,_,_,_,hv,_⟩:=hx;exact⟨_,hv⟩
   obtain⟨q,hq⟩:=hp
   refine⟨a.eval x,?_,hx⟩
   simp only[execOp,hq,Sem.run_pure]
  split at h
  ·rename_i hd;exact go _ hd (.inl ⟨_,_,_,rfl⟩) h
  ·rename_i hd;exact go _ hd (.inr ⟨_,_,_,_,rfl⟩) h
  ·exact h.elim
 case binOp op t x y ty=>
  have fin:∀(val:D),(∀c w u v,Rep c w (ev x) u->Rep c w (ev y) v->∃z,(do eqGuard op t x y u v;binOp op t u v).run P w=.ok z w/\Rep c w val z)->pn P ⟨dst,.binOp op t x y ty,type,pos,after,guard⟩ ev R val R:=λval hv=>
   my λc w a hm hA eg=>by
    obtain⟨z,hz,hr⟩:=hv c w _ _ (eg x (by simp[Op.operands])) (eg y (by simp[Op.operands]))
    refine⟨z,?_,hr⟩
    simp only[execOp]
    rw[Sem.run_bind,hz];rfl
  unfold sB at h
  split at h
  ·rename_i k a k' b hx hy
   split at h
   ·simp only[c7,decide_eq_true_eq]at h
    refine⟨_,_,h.2,fin _ λc w u v hu hv=>?_⟩
    rw[hx]at hu;rw[hy]at hv
    rw[Rep.int.1 hu,Rep.int.1 hv]
    exact⟨_,by rw[Sem.run_bind,Yb];exact(Zcj h.1 w).1,rfl⟩
   ·simp only[c7,decide_eq_true_eq]at h
    refine⟨_,_,h.2,fin _ λc w u v hu hv=>?_⟩
    rw[hx]at hu;rw[hy]at hv
    rw[Rep.int.1 hu,Rep.int.1 hv]
    exact⟨_,by rw[Sem.run_bind,Yb];exact(Zcj h.1 w).2,rfl⟩
   ·rename_i h1 h2
    simp only[c7,decide_eq_true_eq]at h
    obtain⟨rfl,h⟩:=h
    obtain⟨d,hK,hr⟩:=zar (P:=P) (t:=t) ⟨λe=>h1 e,λe=>h2 e⟩ h
    refine⟨_,_,hK,fin _ λc w u v hu hv=>?_⟩
    rw[hx]at hu;rw[hy]at hv
    rw[Rep.int.1 hu,Rep.int.1 hv]
    obtain⟨z,hz,Yc⟩:=hr w
    exact⟨z,by rw[Sem.run_bind,Yb];exact hz,Yc c⟩
  ·rename_i a b hx hy
   obtain⟨d,hK,hr⟩:=xar (P:=P) (t:=t) (op:=op) (a:=a) (b:=b) (K:=λd=>K d R) h
   refine⟨_,_,hK,fin _ λc w u v hu hv=>?_⟩
   rw[hx]at hu;rw[hy]at hv
   rw[Rep.str.1 hu,Rep.str.1 hv]
   obtain⟨z,hz,Yc⟩:=hr w
   exact⟨z,by rw[Sem.run_bind,Zhi];exact hz,Yc c⟩
  ·rename_i a b hx hy
   split at h
   ·rename_i ht
    have hd:=mv hT ht
    simp only at hd
    split at h
    ·refine⟨_,_,h,fin _ λc w u v hu hv=>?_⟩
     rw[hx]at hu;rw[hy]at hv
     rw[Rep.bool.1 hu,Rep.bool.1 hv]
     refine⟨_,?_,rfl⟩
     rw[Sem.run_bind,Qxy]
     simp only[binOp]
     simp[Op.equal,Op.maxDepth,run_equalIn_bool' w 9999 t a b hd]
    ·refine⟨_,_,h,fin _ λc w u v hu hv=>?_⟩
     rw[hx]at hu;rw[hy]at hv
     rw[Rep.bool.1 hu,Rep.bool.1 hv]
     refine⟨_,?_,rfl⟩
     rw[Sem.run_bind,Qxy]
     simp only[binOp]
     simp[Op.equal,Op.maxDepth,run_equalIn_bool' w 9999 t a b hd]
    ·exact h.elim
   ·exact h.elim
  ·rename_i a b hx hy
   split at h
   ·rename_i ti ht
    simp only[c7,aE]at h
    obtain⟨⟨⟨⟨⟨Cs,h0⟩,he⟩,fa⟩,fb⟩,h⟩:=h
    obtain⟨i0,rh,Ea,_,AL,wV,_,heq,hc,d0,Fb⟩:=Qa (hT.get ht)
    have h0:0<ti.size:=lE h0
    rw[heq]at he
    simp only[aE,Bool.not_eq_true']at he
    rw[hc]at fa fb
    have j7:P.cellsOf t=(lI P 8 t).length:=by rw[<-hc,AL];simp[Program.cellsOf,rh,Ea]
    have tX:0<P.cellsOf t:=by simp[Program.cellsOf,rh,Ea,h0]
    have Pj:∀c w u v,Rep c w (ev x) u->Rep c w (ev y) v->∃us vs:Array Value,u=.agg us/\v=.agg vs/\(Op.equalIn 10000 t (.agg us) (.agg vs)).run P w=.ok (eqs a b) w:=by
     intro c w u v hu hv
     rw[hx]at hu;rw[hy]at hv
     obtain⟨us,hu,ru⟩:=hu
     obtain⟨vs,hv,rv⟩:=hv
     refine⟨us.toArray,vs.toArray,hu,hv,?_⟩
     have I8:=Yd (P:=P) 8 t 10000 (by omega) he.2 j7 tX us.toArray vs.toArray 0 a b w fa fb (y4 ru fa) (y4 rv fb)
     have hlu:=ru.length;have hlv:=rv.length
     have hla:=sC fa;have MT:=sC fb
     have tT:Pd d0=true:=by rw[<-LP Fb,<-wV];exact Cs
     simp only[oi,Sem.run_bind,TP Fb tT tX,Result.andThen_ok]at I8
     rw[show us.toArray.extract 0 (0+P.cellsOf t)=us.toArray from by apply gA;simp;omega,show vs.toArray.extract 0 (0+P.cellsOf t)=vs.toArray from by apply gA;simp;omega]at I8
     exact I8
    split at h
    ·refine⟨_,_,h,fin _ λc w u v hu hv=>?_⟩
     obtain⟨us,vs,rfl,rfl,hr⟩:=Pj c w u v hu hv
     refine⟨_,?_,rfl⟩
     rw[Sem.run_bind,run_eqGuard_agg w _ _ _ _ _ _ he.1,Result.andThen_ok,run_eql_struct,hr];rfl
    ·refine⟨_,_,h,fin _ λc w u v hu hv=>?_⟩
     obtain⟨us,vs,rfl,rfl,hr⟩:=Pj c w u v hu hv
     refine⟨_,?_,rfl⟩
     rw[Sem.run_bind,run_eqGuard_agg w _ _ _ _ _ _ he.1,Result.andThen_ok,run_neq_struct,hr];rfl
    ·exact h.elim
   ·exact h.elim
  ·exact h.elim
 case unOp op t x=>
  split at h
  ·rename_i k n hx
   refine⟨_,_,h,my λc w a hm hA eg=>?_⟩
   have:=eg x (by simp[Op.operands])
   rw[hx]at this
   exact⟨_,by simp only[execOp,Rep.int.1 this,Op.unary,Op.intArith,Sem.run_bind,Sem.run_pure];rfl,rfl⟩
  ·rename_i k n hx
   refine⟨_,_,h,my λc w a hm hA eg=>?_⟩
   have:=eg x (by simp[Op.operands])
   rw[hx]at this
   exact⟨_,by simp only[execOp,Rep.int.1 this,Op.unary,Op.intBits,Sem.run_bind,Sem.run_pure];rfl,rfl⟩
  ·rename_i b hx
   refine⟨_,_,h,my λc w a hm hA eg=>?_⟩
   have:=eg x (by simp[Op.operands])
   rw[hx]at this
   exact⟨_,by simp only[execOp,Rep.bool.1 this,Op.unary,Sem.run_bind,Sem.run_pure];rfl,rfl⟩
  ·exact h.elim
 case convert s d x=>
  obtain⟨val,hK,hr⟩:=qas hT h
  refine⟨_,_,hK,my λc w a hm hA eg=>?_⟩
  obtain⟨u,hu,hx⟩:=hr c w _ (eg x (by simp[Op.operands]))
  exact⟨u,by simp only[execOp];rw[Sem.run_bind,hu];rfl,hx⟩
 case makeSlice t l cp=>
  split at h
  ·rename_i kl n kc m hl hc
   obtain⟨row,val,hK,hr⟩:=yt (kl:=kl) (kc:=kc) hT h
   refine⟨_,_,hK,TN λc w a hm hA eg=>⟨_,rfl,?_⟩⟩
   have h1:=eg l (by simp[Op.operands]);have h2:=eg cp (by simp[Op.operands])
   rw[hl]at h1;rw[hc]at h2
   rw[Rep.int.1 h1,Rep.int.1 h2]
   exact hr c w
  ·exact h.elim
 case slice t x lo hi mx=>
  cases mx with
  |some m=>simp only at h
  |none=>
   simp only at h
   obtain⟨val,hK,hr⟩:=xR hT h
   refine⟨_,_,hK,my λc w a hm hA eg=>?_⟩
   obtain⟨u,hu,hx⟩:=hr c w _ a.eval hm hA (eg x (by simp[Op.operands])) (λy hy=>eg y (by simp[Op.operands,hy])) (λy hy=>eg y (by simp[Op.operands,hy]))
   exact⟨u,by simp only[execOp];rw[Sem.run_bind];simp only[Option.map_none];rw[hu];rfl,hx⟩
 case fieldAddr s x f=>
  split at h
  ·rename_i o q n hf
   simp only[c7]at h
   obtain⟨h0,h⟩:=h
   have h0:0<n:=lE h0
   obtain⟨fs,fd,g1,g2,g3,g4,g5⟩:=Qx hT hf
   split at h
   ·rename_i r i off hx
    refine⟨_,_,h,my λc w a hm hA eg=>?_⟩
    have:=eg x (by simp[Op.operands])
    rw[hx]at this
    obtain⟨row,k1,kV,k2,hv⟩:=this
    refine⟨_,by simp only[execOp,hv];rw[Sem.run_bind,Z23 g1 g2 (by simp only at g5;omega)];rfl,row,k1,kV,k2,by rw[g3,fZ]⟩
   ·rename_i sz es i off hx
    refine⟨_,_,h,my λc w a hm hA eg=>?_⟩
    have:=eg x (by simp[Op.operands])
    rw[hx]at this
    obtain⟨b,oo,arr,ty,fz,hv,hI,hi,hh,hE⟩:=this
    refine⟨_,by simp only[execOp,hv];rw[Sem.run_bind,Z23 g1 g2 (by simp only at g5;omega)];rfl,b,oo,arr,ty,fz,by rw[g3,fZ],hI,hi,hh,hE⟩
   ·exact h.elim
  ·exact h.elim
 case field s x f=>
  split at h
  ·rename_i o q n hf
   obtain⟨fs,fd,g1,g2,g3,g4,g5⟩:=Qx hT hf
   simp only at g4 g5
   split at h
   ·rename_i cs ti hx ht
    simp only[c7,aE]at h
    obtain⟨⟨h0,hle⟩,h⟩:=h
    have h0:0<n:=lE h0
    have hle:=lE hle
    obtain⟨_,_,_,_,_,wV,_,_,_,d0,Fb⟩:=Qa (hT.get ht)
    have run:∀(vs:List Value) (w:World) (r:Value),(part q vs.toArray o).run P w=.ok r w->(Instr.field s (.agg vs.toArray) f).run P w=.ok r w:=λvs w r hr=>by
     simp only[Instr.field,Sem.run_bind,run_underlying g1,Result.andThen_ok,g2,asAgg,Sem.run_pure,g4,g3,hr]
    split at h
    ·rename_i Cs
     rw[D.ez]at h
     refine⟨_,_,h,my λc w a hm hA eg=>?_⟩
     have:=eg x (by simp[Op.operands])
     rw[hx]at this
     obtain⟨vs,hv,hr⟩:=this
     have hp:=TP (P:=P) Fb (by rw[<-LP Fb,<-wV];exact Cs) (by rw[<-g4,g5];exact h0) vs.toArray o w
     refine⟨_,by simp only[execOp,hv];rw[Sem.run_bind,run vs w _ hp];rfl,(vs.drop o).take n,?_,Zns hr o n⟩
     rw[<-g4,g5]
     congr 1
     simp[List.extract_toArray,List.extract_eq_take_drop]
    ·rename_i Cs
     simp only[D.cf]at h
     obtain⟨lR,h⟩:=h
     refine⟨_,_,h,my λc w a hm hA eg=>?_⟩
     have:=eg x (by simp[Op.operands])
     rw[hx]at this
     obtain⟨vs,hv,hr⟩:=this
     have hl:=hr.length
     have iP:vs[o]?=some vs[o]:=cG (by omega)
     have hp:=G2 (P:=P) (t:=q) Fb (by rw[<-LP Fb,<-wV];exact Cs) (xs:=vs.toArray) (o:=o) (v:=vs[o]) (by rw[aY];exact iP) w
     refine⟨_,by simp only[execOp,hv];rw[Sem.run_bind,run vs w _ hp];rfl,?_⟩
     have hc:=(DL.1 hr).2 o _ iP
     generalize cs.getD o .dead=d at*
     cases d<;>first|exact hc|trivial|exact hc.elim
   ·exact h.elim
  ·exact h.elim
 case indexAddr t x ix=>
  split at h
  ·rename_i k n hn
   obtain⟨val,hK,hr⟩:=Zmh (k:=k) hT h
   refine⟨_,_,hK,my λc w a hm hA eg=>?_⟩
   have h2:=eg ix (by simp[Op.operands])
   rw[hn]at h2
   obtain⟨u,hu,hx⟩:=hr c w _ hm hA (eg x (by simp[Op.operands]))
   exact⟨u,by simp only[execOp,Rep.int.1 h2];rw[Sem.run_bind,hu];rfl,hx⟩
  ·exact h.elim
 case index t x ix=>
  split at h
  ·rename_i s k n ht hx hn
   have hd:=mv hT ht
   simp only at hd
   simp only[c7,decide_eq_true_eq]at h
   obtain⟨⟨h1,h2⟩,h⟩:=h
   refine⟨_,_,h,my λc w a hm hA eg=>?_⟩
   have e1:=eg x (by simp[Op.operands]);have e2:=eg ix (by simp[Op.operands])
   rw[hx]at e1;rw[hn]at e2
   refine⟨_,?_,rfl⟩
   have cj:n.toNat<s.length:=by omega
   have hg:(ByteArray.mk s.toArray)[n.toNat]?=some (s.getD n.toNat 0):=by
    have h3:n.toNat<(ByteArray.mk s.toArray).size:=by simpa[ByteArray.size]using cj
    rw[getElem?_pos (ByteArray.mk s.toArray) n.toNat h3]
    simp only[aK,cG cj,aG]
    rfl
   simp only[execOp,Rep.str.1 e1,Rep.int.1 e2,Instr.index,asIntOf,Sem.run_bind,Sem.run_pure,Result.andThen_ok,run_underlying hd,h1,if_true,hg]
  ·rename_i len e iz _ _ _ _ _ cs k n ht hx hn
   have hd:=mv hT ht
   simp only at hd
   obtain⟨hd,fp⟩:=hd
   simp only[c7,aE,decide_eq_true_eq]at h
   obtain⟨⟨q1,q2,q3,q4⟩,h⟩:=h
   have q1:=bE q1
   have q2:=bE q2
   have run:∀(vs:List Value) (v:Value) (w:World) (d:TypeDesc),P.underlying e=some d->Pd d=false->vs[n.toNat]?=some v->(Instr.index t (.agg vs.toArray) (.int k n)).run P w=.ok v w:=λvs v w d hu hda hv=>by
    have h0:0<P.cellsOf e:=by omega
    simp only[Instr.index,asIntOf,Sem.run_bind,Sem.run_pure,Result.andThen_ok,run_underlying hd,Sem.run_ite,q3,q4,and_self,if_true,AX h0]
    rw[fp,q1,Nat.mul_one]
    exact G2 hu hda (by rw[aY];exact hv) w
   have cell:∀(c:Ctx) (w:World) (a:Act),Rep c w (.agg cs) (a.eval x)->∃vs:List Value,a.eval x=.agg vs.toArray/\∃v,vs[n.toNat]?=some v/\cu c w (cs.getD n.toNat .dead) v:=λc w a hr=>by
    obtain⟨vs,hv,hr⟩:=hr
    have hl:=hr.length
    have iP:vs[n.toNat]?=some vs[n.toNat]:=cG (by omega)
    exact⟨vs,hv,_,iP,(DL.1 hr).2 _ _ iP⟩
   split at h
   ·rename_i kk _ _ _ _ _ he
    have hu:=mv hT he
    simp only at hu
    obtain⟨h1,h⟩:=h
    refine⟨_,_,h,my λc w a hm hA eg=>?_⟩
    have e1:=eg x (by simp[Op.operands]);have e2:=eg ix (by simp[Op.operands])
    rw[hx]at e1;rw[hn]at e2
    obtain⟨vs,hv,v,g1,g2⟩:=cell c w a e1
    have hi:=TG h1 (n:=n.toNat) (by omega)
    rw[aX]at hi
    rw[D.jV hi]at g2
    refine⟨v,?_,?_⟩
    ·simp only[execOp,Rep.int.1 e2,hv]
     rw[Sem.run_bind,run vs v w _ hu rfl g1];rfl
    ·rw[TE (show n.toNat<len by omega),aX]
     exact g2
   ·rename_i he
    have hu:=mv hT he
    simp only at hu
    obtain⟨h1,h⟩:=h
    refine⟨_,_,h,my λc w a hm hA eg=>?_⟩
    have e1:=eg x (by simp[Op.operands]);have e2:=eg ix (by simp[Op.operands])
    rw[hx]at e1;rw[hn]at e2
    obtain⟨vs,hv,v,g1,g2⟩:=cell c w a e1
    have hi:=TH h1 (n:=n.toNat) (by omega)
    rw[aX]at hi
    rw[D.jW hi]at g2
    refine⟨v,?_,?_⟩
    ·simp only[execOp,Rep.int.1 e2,hv]
     rw[Sem.run_bind,run vs v w _ hu rfl g1];rfl
    ·rw[TF (show n.toNat<len by omega),aX]
     exact g2
   ·exact h.elim
  ·exact h.elim
 case extract x i=>
  split at h
  ·rename_i ds hx
   simp only[c7,D.cf]at h
   obtain⟨hv,h⟩:=h
   refine⟨_,_,h,my λc w a hm hA eg=>?_⟩
   have:=eg x (by simp[Op.operands])
   rw[hx]at this
   obtain⟨vs,Bv,hr⟩:=this
   have cj:i<ds.length:=by
    by_cases hl:i<ds.length
    ·exact hl
    ·rw[aK,aM (by omega)]at hv;simp[D.isVal]at hv
   obtain⟨v,hvi,hvr⟩:=Ya hr i cj
   refine⟨v,?_,?_⟩
   ·simp only[execOp,Bv,Instr.extract,aY,hvi];rfl
   ·generalize ds.getD i .dead=d at*
    cases d<;>first|exact hvr|trivial|exact hvr.elim
  ·exact h.elim
 case call cl=>
  obtain⟨callee,args,c9⟩:=cl
  cases callee<;>try(simp only at h)
  case builtin b=>
  cases b<;>try(simp only at h)
  case len=>
   split at h
   ·rename_i x t hx ht
    obtain⟨val,hK,hr⟩:=xaH (t':=type) hT h
    refine⟨_,_,hK,my λc w a hm hA eg=>?_⟩
    have ft:args= #[x]:=by rw[<-bS (xs:=args),hx]
    have tN:c9= #[t]:=by rw[<-bS (xs:=c9),ht]
    subst ft;subst tN
    obtain⟨u,hu,hx⟩:=hr c w _ hm hA (eg x (by simp[Op.operands,Call.operands]))
    refine⟨u,?_,hx⟩
    simp only[execOp,resolve,Sem.run_bind,Sem.run_pure,Result.andThen_ok,invoke,builtin]
    have:(#[x]:Array Operand).map a.eval= #[a.eval x]:=by simp
    rw[this,hu];rfl
   ·exact h.elim
def Ctx.kill(c:Ctx)(ks:List Nat):Ctx:={c with R:=λr=>if bq r ks=true then none else(c.R r).map (Row.kill ks)}
structure jA(ks:List Nat)(c:Ctx)(w:World)(c':Ctx)(w':World):Prop where
 mem:Mem c' w'
 bz:jf (c.kill ks) w c' w'
 fr:Fr (λb=>∃r x,c.R r=some x/\¬c.V r/\c.ρ r=b) w w'
 fh:∀b,c'.I b->c.I b\/(∃s row,bq s ks=true/\c.R s=some row/\¬c.V s/\c.ρ s=b)\/w.heap.size<=b
 nS:∀r ao,c'.R r=some ao->¬c'.V r->((∃row,c.R r=some row)/\¬c.V r/\c'.ρ r=c.ρ r)\/(∃s row,bq s ks=true/\c.R s=some row/\¬c.V s/\c'.ρ r=c.ρ s)\/w.heap.size<=c'.ρ r
def jZ(P:Program)(f:FuncId)(args:List D)(rows:List Row)(res:D)(ai:List Row):Prop:=
 ∀ (c:Ctx) (w:World) (vs:List Value),Mem c w->c.base=w.heap.size->(∀r,c.R r=rows[r]?)->jY c w args vs->
  Calls P f vs.toArray w λe w'=>∃v c',e=.returned v/\lu c w c' w'/\(∀r,c'.R r=ai[r]?)/\Rep c' w' res v
def FU(P:Program)(I:ab)(f:FuncId)(vs:List Value)(w:World)(R:Ending->World->Prop):Prop:=
 (f<YB->Calls P f vs.toArray w R)/\
 (YB<=f->∀l rec xs us,vs=xs++us->I l->w.heap[l]?=some (.loop rec)->Pk f us rec->xs.length=1->
  RoundIn Fence.wide 0 P l rec.fn ((rec.params.zip xs.toArray).foldl (λtmps (t,a)=>tmps.setIfInBounds t a) rec.tmps) rec.assign rec.body w R)
theorem FU.mono{P:Program}{I I':ab}{f:FuncId}{vs:List Value}{w:World}{R R':Ending->World->Prop}(h:FU P I f vs w R)(hI:∀b,I' b->I b)(hR:∀e w',R e w'->R' e w'):FU P I' f vs w R':=
 ⟨λhf=>(h.1 hf).mono hR,λhf l rec xs us h1 h2 h3 h4 h5=>(h.2 hf l rec xs us h1 (hI l h2) h3 h4 h5).mono hR⟩
theorem FU.real{P:Program}{I:ab}{f:FuncId}{vs:List Value}{w:World}{R:Ending->World->Prop}(hf:f<YB)(h:Calls P f vs.toArray w R):FU P I f vs w R:=⟨λ_=>h,λhg=>absurd hf (Nat.not_lt.2 hg)⟩
def r9(P:Program)(f:FuncId)(k:Nat)(args:List D)(rows:List Row)(res:D)(ai:List Row):Prop:=
 ∀ (c:Ctx) (w:World) (vs:List Value),Mem c w->c.base=0->(∀r,c.R r=rows[r]?)->jY c w args vs->
  FU P c.I f vs w λe w'=>∃v c',e=.returned v/\jA (List.range' k (rows.length-k)) c w c' w'/\(∀r,c'.R r=ai[r]?)/\Rep c' w' res v
def kG:D->Prop|.int _ _=>True|.bool _=>True|.str _=>True|.dq=>True|.iy=>True|.emp=>True|_=>False
def CT.kG:CT->Bool|.int _=>true|.bool=>true|.str=>true|_=>false
def RK.kG(k:RK):Bool:=k.sig.all CT.kG
def ak.Fc:ak->Prop
 |.gen es=>∀e∈es,∀d∈e,kG d
 |.bc k _=>k.kG=true
 |_=>True
theorem Z7s:∀{ts:List CT} {cs:List D} {j:Nat},ts.all CT.kG=true->∀d∈uO ts cs j,kG d
 |[],_,_,_,d,h=>by simp[uO]at h
 |t ::ts,cs,j,ht,d,h=>by
  simp only[List.all_cons,aE]at ht
  simp only[uO,cR]at h
  rcases h with h|h
  ·subst h
   cases t<;>first|trivial|(simp[CT.kG]at ht)
  ·exact Z7s ht.2 d h
theorem ak.Cu{E:ak}(h:E.Fc):∀e∈E.l,∀d∈e,kG d:=by
 cases E with
 |gen es=>exact h
 |ints k l=>
  intro e he d hd
  simp only[ak.l,gB]at he
  obtain⟨n,_,rfl⟩:=he
  simp at hd
  subst hd;trivial
 |bn l=>
  intro e he d hd
  simp only[ak.l,gB]at he
  obtain⟨n,_,rfl⟩:=he
  simp at hd
  subst hd;trivial
 |bc k l=>
  intro e he d hd
  simp only[ak.l,gB]at he
  obtain⟨x,_,rfl⟩:=he
  rw[<-RK.nO]at hd
  exact Z7s h d hd
def Pl:D->Prop
 |.sl _ es fr=>(es.Nil\/fr=true)/\es.Fc
 |.ig _ _ _ _=>False
 |.gb _ _=>False
 |_=>True
def LU:List D->Prop
 |[]=>True
 |d::ds=>Pl d/\LU ds
def TQ:D->Prop
 |.agg cs=>LU cs
 |d=>Pl d
def Fe:List D->Prop
 |[]=>True
 |d::ds=>TQ d/\Fe ds
def FF:D->Prop
 |.dt ds=>Fe ds
 |d=>TQ d
def I9(row:Row):Prop:=if row.box then∀e∈row.es.l,LU e else row.es.Fc
def pW:List Row->Prop
 |[]=>True
 |r::l=>I9 r/\pW l
structure bj(P:Program)(x:ba):Prop where
 enters:x.f<YB->∀args w,(callFunc x.f args).run P w=.ok (.enter x.f args) w
 real:x.gone=none->x.f<YB
 ok:x.gone=none->∀args rows res ai,x.m args rows=.ok res ai->jZ P x.f args rows res ai/\(x.flat=true->FF res/\pW ai)
 when:x.gone=none->∀args rows p res ai,x.m args rows=.when p res ai->p->jZ P x.f args rows res ai/\(x.flat=true->FF res/\pW ai)
 abs:x.gone=none->∀args rows α v res ai,x.m args rows=.abs α v res ai->jZ P x.f args rows (res v) (ai v)/\(x.flat=true->FF (res v)/\pW (ai v))
 lr:x.gone=none->∀args rows p α v res ai,x.m args rows=.lr p α v res ai->p->jZ P x.f args rows (res v) (ai v)/\(x.flat=true->FF (res v)/\pW (ai v))
 O9:∀k,x.gone=some k->∀args rows α v res ai,x.m args rows=.abs α v res ai->r9 P x.f k args rows (res v) (ai v)
 GX:∀k,x.gone=some k->∀args rows p α v res ai,x.m args rows=.lr p α v res ai->p->r9 P x.f k args rows (res v) (ai v)
def jO(P:Program)(G:List ba):Prop:=∀x∈G,bj P x
theorem FE{P:Program}:∀{G:List ba} {f:FuncId} {x:ba},jO P G->oA G f=some x->bj P x/\x.f=f
 |[],f,x,_,h=>by simp[oA]at h
 |y ::l,f,x,hG,h=>by
  simp only[oA]at h
  split at h
  ·rename_i hb
   simp at h;subst h
   exact⟨hG y (by simp),bE hb⟩
  ·exact FE (λz hz=>hG z (by simp[hz])) h
theorem Zjh:∀{rows:List Row} {i:Nat} {row:Row},pW rows->rows[i]?=some row->I9 row
 |r::l,0,row,h,hi=>by simp at hi;subst hi;exact h.1
 |r::l,i+1,row,h,hi=>Zjh h.2 (by simpa using hi)
 |[],i,row,_,hi=>by simp at hi
theorem nV{r:Nat}:∀{l:List Nat},bq r l=true↔r∈l
 |[]=>by simp[bq]
 |x ::l=>by
  simp only[bq]
  cases hb:Nat.beq x r with
  |true=>have:=bE hb;subst this;simp
  |false=>
   have gg:¬r=x:=λe=>by rw[e]at hb;simp at hb
   simp[nV (l:=l),gg]
theorem LI:∀{l m:List Nat},o7 l m=true↔ ∀r∈l,r∈m
 |[],m=>by simp[o7]
 |x::l,m=>by
  simp only[o7]
  cases hb:bq x m with
  |true=>simp[LI (l:=l),nV.1 hb]
  |false=>simp[show¬x∈m fromλe=>by rw[nV.2 e]at hb;cases hb]
theorem Tn:∀{l m:List Nat},ny l m=true↔ ∀r∈l,¬r∈m
 |[],m=>by simp[ny]
 |x::l,m=>by
  simp only[ny]
  cases hb:bq x m with
  |true=>simp[nV.1 hb]
  |false=>simp[Tn (l:=l),show¬x∈m fromλe=>by rw[nV.2 e]at hb;cases hb]
theorem LJ:∀{l:List Nat},DN l=true↔l.Nodup
 |[]=>by simp[DN]
 |x::l=>by
  simp only[DN,List.nodup_cons]
  cases hb:bq x l with
  |true=>simp[nV.1 hb]
  |false=>simp[LJ (l:=l),show¬x∈l fromλe=>by rw[nV.2 e]at hb;cases hb]
theorem Zkl{r:Nat}:∀{l:List Nat} {k:Nat},r∈l->∃j,pos r l k=k+j/\l[j]?=some r
 |x ::l,k,h=>by
  simp only[pos]
  cases hb:Nat.beq x r with
  |true=>exact⟨0,rfl,by simp[bE hb]⟩
  |false=>
   have gg:¬r=x:=λe=>by rw[e]at hb;simp at hb
   have hm:r∈l:=by simpa[gg]using h
   obtain⟨j,h1,h2⟩:=Zkl (k:=k+1) hm
   exact⟨j+1,by show pos r l (k+1)=_;rw[h1];omega,by simpa using h2⟩
theorem AU{r:Nat}{l:List Nat}(h:r∈l):l[pos r l 0]?=some r:=by
 obtain⟨j,h1,h2⟩:=Zkl (k:=0) h
 rw[h1,aX];exact h2
structure DK(S:Nat->Prop)(f:Nat->Nat)(cq:Bool)(c1 c2:Ctx):Prop where
 row:∀i row,S i->c1.R i=some row->∃ao,c2.R (f i)=some ao/\ao.box=row.box/\ao.ty=row.ty/\ao.sz=row.sz/\ao.es.l.length=row.es.l.length/\c2.ρ (f i)=c1.ρ i/\(c2.V (f i)↔c1.V i)
 base:cq=true->c2.base<=c1.base
 top:c1.top<=c2.top
theorem yQ{I I':ab}{w:World}{d:D}{v:Value}(hs:kG d)(h:fq I w d v):fq I' w d v:=by
 cases h<;>first|exact hs.elim|constructor
theorem Z68{I I':ab}{w:World}:∀{cs:List D} {arr:Array Value} {off:Nat},(∀d∈cs,kG d)->nB I w cs arr off->nB I' w cs arr off
 |[],_,_,_,_=>by simp[Bo,wW]
 |d::cs,arr,off,hs,h=>by
  simp only[Bo,wW]at h⊢
  obtain⟨⟨v,hv,hp⟩,hr⟩:=h
  exact⟨⟨v,hv,yQ (hs d (by simp)) hp⟩,Z68 (λe he=>hs e (by simp[he])) hr⟩
theorem Ye{I I':ab}{w:World}:∀{es:List (List D)} {arr:Array Value} {off sz:Nat},(∀e∈es,∀d∈e,kG d)->iu I w es arr off sz->iu I' w es arr off sz
 |[],_,_,_,_,_=>by simp[pr,nU]
 |e::es,arr,off,sz,hs,h=>by
  simp only[pr,nU]at h⊢
  exact⟨h.1,Z68 (hs e (by simp)) h.2.1,Ye (λf hf=>hs f (by simp[hf])) h.2.2⟩
theorem VRep.Ed{c:Ctx}{w:World}{d:D}{v:Value}(h:cu c w d v):VRep c w d v:=by cases d<;>first|exact h|exact h.elim
theorem VRep.toC{c:Ctx}{w:World}{d:D}{v:Value}(hd:∀cs,d≠.agg cs)(h:VRep c w d v):cu c w d v:=by cases d<;>first|exact h|exact absurd rfl (hd _)
theorem Rep.JX{c:Ctx}{w:World}{d:D}{v:Value}(h:VRep c w d v):Rep c w d v:=by cases d<;>first|exact h|exact h.elim|trivial
theorem Rep.toV{c:Ctx}{w:World}{d:D}{v:Value}(hd:∀ds,d≠.dt ds)(h0:d≠.dead)(h:Rep c w d v):VRep c w d v:=by cases d<;>first|exact h|exact absurd rfl (hd _)|exact absurd rfl h0
theorem Z17{f:Nat->Nat}{cq:Bool}:∀{e:List D},(D.lZ f cq e).length=e.length
 |[]=>rfl
 |d::l=>by simp[D.lZ,Z17 (e:=l)]
section
variable {S:Nat->Prop} {f:Nat->Nat} {cq:Bool} {c1 c2:Ctx} {w:World} (hn:DK S f cq c1 c2) {flat:Prop} (hI:(∀b,c1.I b->c2.I b)\/(flat/\∀b,c1.I b->c1.base<=b->c2.I b))
include hn hI
theorem Zfc{d:D}{v:Value}(gg:∀f cs,d≠.gb f cs)(hS:∀r∈nu d,S r)(jJ:flat->Pl d)(h:cu c1 w d v):cu c2 w (d.lY f cq) v:=by
 cases d with
 |sl sz es fr=>
  obtain⟨a,cap,hv,hc,ia⟩:=h
  refine⟨a,cap,hv,hc,?_⟩
  rcases ia with ia|⟨b,off,arr,ty,fz,ha,iq,hf,hh,hE⟩
  ·exact .inl ia
  ·have hb:(fr&&cq)=true->c2.base<=b:=λe=>by
    simp only[aE]at e
    exact Nat.le_trans (hn.base e.2) (hf e.1)
   rcases hI with hi|⟨Ff,hi⟩
   ·exact .inr ⟨b,off,arr,ty,fz,ha,hi b iq,hb,hh,nP (λb hb=>⟨hi b hb,rfl⟩) _ _ _ _ hE⟩
   ·obtain⟨h1,h2⟩:=jJ Ff
    rcases h1 with h1|h1
    ·exact .inl (ak.nZ.1 h1)
    ·exact .inr ⟨b,off,arr,ty,fz,ha,hi b iq (hf h1),hb,hh,Ye (ak.Cu h2) hE⟩
 |all r=>
  obtain⟨row,hr,hb,h⟩:=h
  obtain⟨ao,g1,g2,g3,g4,g5,g6,gV⟩:=hn.row r row (hS r (by simp[nu])) hr
  refine⟨ao,g1,g2.trans hb,?_⟩
  rcases h with⟨hV,hv⟩|⟨hV,cap,arr,hv,h1,h2,h3,h4⟩
  ·obtain⟨a,hv,ho⟩:=hv;exact .inl ⟨gV.2 hV,a,hv,ho.mono hn.top⟩
  ·exact .inr ⟨λe=>hV (gV.1 e),cap,arr,by rw[hv,g5,g6],by rw[g5];exact h1,h2,by rw[g6,g3];exact h3,by rw[g4];exact h4⟩
 |own r o n=>
  obtain⟨row,hr,hb,ho,h⟩:=h
  obtain⟨ao,g1,g2,g3,g4,g5,g6,gV⟩:=hn.row r row (hS r (by simp[nu])) hr
  refine⟨ao,g1,g2.trans hb,by rw[g5];exact ho,?_⟩
  rcases h with⟨h0,a,hv,iZ⟩|⟨hV,cap,arr,h1,h2,h3,h4,h5⟩
  ·exact .inl ⟨h0,a,hv,iZ.mono hn.top gV g6⟩
  ·exact .inr ⟨λe=>hV (gV.1 e),cap,arr,h1,h2,by rw[g6,g3];exact h3,by rw[g4,g6];exact h4,by rw[g4];exact h5⟩
 |ptr r i off=>
  obtain⟨row,hr,hV,hi,hv⟩:=h
  obtain⟨ao,g1,g2,g3,g4,g5,g6,gV⟩:=hn.row r row (hS r (by simp[nu])) hr
  exact⟨ao,g1,λe=>hV (gV.1 e),by rw[g5];exact hi,by rw[hv,g6,g4]⟩
 |pa r i off len k n=>
  obtain⟨cj,row,hr,hV,hi,hv⟩:=h
  obtain⟨ao,g1,g2,g3,g4,g5,g6,gV⟩:=hn.row r row (hS r (by simp[nu])) hr
  exact⟨cj,ao,g1,λe=>hV (gV.1 e),by rw[g5];exact hi,by rw[hv,g6,g4]⟩
 |ig sz es i off=>
  obtain⟨b,o,arr,ty,fz,hv,iq,il,hh,hE⟩:=h
  rcases hI with hi|⟨Ff,hi⟩
  ·exact⟨b,o,arr,ty,fz,hv,hi b iq,il,hh,nP (λb hb=>⟨hi b hb,rfl⟩) _ _ _ _ hE⟩
  ·exact(jJ Ff).elim
 |cy r=>
  rcases h with h|⟨row,hr,hV,hi,hv⟩
  ·exact .inl h
  ·obtain⟨ao,g1,g2,g3,g4,g5,g6,gV⟩:=hn.row r row (hS r (by simp[nu])) hr
   exact .inr ⟨ao,g1,λe=>hV (gV.1 e),by rw[g5];exact hi,by rw[hv,g6,g4]⟩
 |gb f cs=>exact absurd rfl (gg f cs)
 |emp=>obtain⟨a,hv,ho⟩:=h;exact⟨a,hv,ho.mono hn.top⟩
 |_=>exact h
theorem Yf{d:D}{v:Value}(hS:∀r∈nu d,S r)(jJ:flat->Pl d)(h:cu c1 w d v):cu c2 w (d.lY f cq) v:=by
 by_cases e:∃g cs,d=.gb g cs
 ·obtain⟨g,cs,rfl⟩:=e
  obtain⟨us,hv,hu⟩:=h
  have hi:∀b,c1.I b->c2.I b/\w.heap[b]?=w.heap[b]? :=by
   rcases hI with hi|⟨Ff,_⟩
   ·exactλb hb=>⟨hi b hb,rfl⟩
   ·exact(jJ Ff).elim
  exact⟨us,LO hi hv,X3 (Fk:=λ_=>True) (λd v h1 h2 h3=>Zfc hn (flat:=False) (.inl λb hb=>(hi b hb).1) h1 h2 (λe=>e.elim) h3) (λ_ _ _ _=>LO hi) (λ_ _ _=>trivial) hS hu⟩
 ·exact Zfc hn hI (λf cs e'=>e ⟨f,cs,e'⟩) hS jJ h
theorem Zk:∀{ds:List D} {vs:List Value},(∀r∈pB ds,S r)->(flat->LU ds)->jh c1 w ds vs->jh c2 w (D.lZ f cq ds) vs
 |[],[],_,_,_=>trivial
 |d::ds,v::vs,hS,jJ,h=>⟨Yf hn hI (λr hr=>hS r (by simp[pB,hr])) (λe=>(jJ e).1) h.1,Zk (λr hr=>hS r (by simp[pB,hr])) (λe=>(jJ e).2) h.2⟩
 |[],_::_,_,_,h=>h.elim
 |_::_,[],_,_,h=>h.elim
theorem Pm{d:D}{v:Value}(hS:∀r∈EW d,S r)(jJ:flat->TQ d)(h:VRep c1 w d v):VRep c2 w (d.jb f cq) v:=by
 cases d with
 |agg cs=>obtain⟨vs,hv,hr⟩:=h;exact⟨vs,hv,Zk hn hI hS jJ hr⟩
 |dt ds=>exact h.elim
 |_=>
  refine VRep.Ed (Yf hn hI ?_ ?_ (VRep.toC ?_ h))
  ·exact hS
  ·exact jJ
  ·intro cs e;cases e
theorem Zli:∀{ds:List D} {vs:List Value},(∀d∈ds,∀r∈EW d,S r)->(flat->Fe ds)->jY c1 w ds vs->jY c2 w (D.Ay f cq ds) vs
 |[],[],_,_,_=>trivial
 |d::ds,v::vs,hS,jJ,h=>⟨Pm hn hI (hS d (by simp)) (λe=>(jJ e).1) h.1,Zli (λd hd=>hS d (by simp[hd])) (λe=>(jJ e).2) h.2⟩
 |[],_::_,_,_,h=>h.elim
 |_::_,[],_,_,h=>h.elim
theorem XW{d:D}{v:Value}(hS:∀r,S r)(jJ:flat->FF d)(h:Rep c1 w d v):Rep c2 w (d.sD f cq) v:=by
 cases d with
 |dt ds=>obtain⟨vs,hv,hr⟩:=h;exact⟨vs,hv,Zli hn hI (λ_ _ r _=>hS r) jJ hr⟩
 |agg cs=>exact Pm hn hI (d:=.agg cs) (λr _=>hS r) jJ h
 |dead=>trivial
 |_=>
  have h':=Rep.toV (λds e=>by cases e) (λe=>by cases e) h
  have h2:=Pm hn hI (λr _=>hS r) (λe=>by have:=jJ e;exact this) h'
  exact Rep.JX h2
theorem TR:∀{ds:List D} {arr:Array Value} {off:Nat},(∀r∈pB ds,S r)->(flat->LU ds)->kA c1 w ds arr off->kA c2 w (D.lZ f cq ds) arr off
 |[],_,_,_,_,_=>trivial
 |d::ds,arr,off,hS,jJ,⟨⟨v,hv,h1⟩,h2⟩=>⟨⟨v,hv,Yf hn hI (λr hr=>hS r (by simp[pB,hr])) (λe=>(jJ e).1) h1⟩,TR (λr hr=>hS r (by simp[pB,hr])) (λe=>(jJ e).2) h2⟩
theorem XU{i j:Nat}{row:Row}(Pe:c2.ρ j=c1.ρ i)(hV:c2.V j↔c1.V i)(hS:row.box=true->∀e,row.es=.gen [e]->∀r∈pB e,S r)(jJ:flat->I9 row)(h:Ef c1 w i row):Ef c2 w j (row.jb f cq):=by
 have sh:(row.jb f cq).box=row.box/\(row.jb f cq).ty=row.ty/\(row.jb f cq).sz=row.sz:=by
  unfold Row.jb;split<;>exact⟨rfl,rfl,rfl⟩
 rcases h with⟨h0,h1,h2,h3⟩|⟨h0,arr,ha,hs,hx⟩
 ·refine .inl ⟨hV.2 h0,?_⟩
  unfold Row.jb
  split
  ·simp at h1
  ·exact⟨h1,h2,h3⟩
 ·refine .inr ⟨λe=>h0 (hV.1 e),arr,by rw[Pe,sh.2.1];exact ha,by rw[sh.2.2];exact hs,?_⟩
  rw[sh.1,sh.2.2]
  split
  ·rename_i hb
   simp only[hb,if_true]at hx
   obtain⟨e,k1,k2,k3,k4⟩:=hx
   obtain⟨box,ty,sz,es⟩:=row
   simp only at hb k1 k2 k3 k4
   subst hb;subst k1
   refine⟨D.lZ f cq e,rfl,?_,k3,TR hn hI (hS rfl e rfl) (λe'=>?_) k4⟩
   ·rw[Z17];exact k2
   ·have:=jJ e'
    simp only[I9,if_true]at this
    exact this e (by simp[ak.l])
  ·rename_i hb
   simp only[hb,aN,if_false]at hx
   have he:(row.jb f cq).es=row.es:=by
    unfold Row.jb
    split
    ·simp at hb
    ·rfl
   rw[he]
   rcases hI with hi|⟨Ff,hi⟩
   ·exact nP (λb hb=>⟨hi b hb,rfl⟩) _ _ _ _ hx
   ·have:=jJ Ff
    simp only[I9,hb,aN,if_false]at this
    exact Ye (ak.Cu this) hx
end
def Ctx.pass(c:Ctx)(w:World)(ids:List Nat)(rows:List Row)(len:Bool):Ctx:=
 { ρ:=λi=>match ids[i]? with|some r=>c.ρ r|none=>0,R:=λi=>rows[i]?,V:=λi=>match ids[i]? with|some r=>c.V r|none=>False,
   I:=λb=>c.I b\/(len=true/\ ∃r row,c.R r=some row/\ ¬c.V r/\row.box=false/\r∉ids/\c.ρ r=b),base:=w.heap.size,top:=c.top,X:=λ_=>False}
section
variable {c:Ctx} {w:World} {R:Rows} {ids:List Nat} {dw:List Row} {len:Bool}
theorem Zke(hm:Mem c w)(hA:mf c R){d d':D}{v:Value}(h:EV R d=some d')(hl:nu d≠[]->len=true)(hd:∀r∈nu d,r∉ids)(hr:cu c w d v):cu (c.pass w ids dw len) w d' v:=by
 have nj:∀b,c.I b->(c.pass w ids dw len).I b/\w.heap[b]?=w.heap[b]? :=λb hb=>⟨.inl hb,rfl⟩
 cases d<;>simp only[EV]at h<;>try(cases h;done)
 case bool b=>cases h;exact hr
 case int k n=>cases h;exact hr
 case str s=>cases h;exact hr
 case iy=>cases h;exact hr
 case jF=>cases h;exact hr
 case dq=>cases h;exact⟨none,0,hr,aO _,.inl rfl⟩
 case emp=>cases h;obtain⟨a,hv,_⟩:=hr;exact⟨a,0,hv,aO _,.inl rfl⟩
 case sl sz es fr=>
  cases h
  obtain⟨a,cap,hv,hc,ia⟩:=hr
  refine⟨a,cap,hv,hc,?_⟩
  rcases ia with ia|⟨b,off,arr,ty,fz,ha,hI,hf,hh,hE⟩
  ·exact .inl ia
  ·exact .inr ⟨b,off,arr,ty,fz,ha,.inl hI,by simp,hh,nP nj _ _ _ _ hE⟩
 case all r=>
  split at h
  ·rename_i row hR
   split at h
   ·rename_i hb
    cases h
    obtain⟨ao,g1,g2,hv⟩:=hr
    have:=hA r ao _ g1 hR
    subst this
    rcases hv with⟨hV,a,hv,_⟩|⟨hV,cap,arr,hv,g3,g4,g5,g6⟩
    ·have he:=(hm.nQ g1 hV).2.1
     exact⟨a,0,by rw[he];exact hv,by rw[he];exact aO _,.inl he⟩
    refine⟨_,cap,hv,g3,?_⟩
    obtain⟨iJ,jx,hs,hx⟩:=hm.real g1 hV
    rw[g5]at jx;cases jx
    simp only[hb,aN,if_false]at hx
    exact .inr ⟨_,0,arr,_,_,rfl,.inr ⟨hl (by simp[nu]),r,_,g1,hV,hb,hd r (by simp[nu]),rfl⟩,by simp,g5,nP nj _ _ _ _ hx⟩
   ·cases h
  ·cases h
 case own r o n=>
  split at h
  ·rename_i row hR
   split at h
   ·rename_i hb
    cases h
    obtain⟨ao,g1,g2,g5,hv⟩:=hr
    have:=hA r ao _ g1 hR
    subst this
    have hlen:((ao.es.drop o).take n).l.length=n:=by rw[ak.iT,ak.j4];simp only[List.length_take,List.length_drop];omega
    rcases hv with⟨g7,a,hv,_⟩|⟨hV,cap,arr,g3,g4,g6,hv,g7⟩
    ·subst g7
     exact⟨a,0,by rw[hlen];exact hv,by omega,.inl (by rw[ak.iT];simp)⟩
    obtain⟨iJ,jx,hs,hx⟩:=hm.real g1 hV
    rw[g6]at jx;cases jx
    simp only[hb,aN,if_false]at hx
    refine⟨_,cap,by rw[hlen];exact hv,by omega,.inr ⟨_,o*ao.sz,arr,_,_,rfl,.inr ⟨hl (by simp[nu]),r,_,g1,hV,hb,hd r (by simp[nu]),rfl⟩,by simp,g6,nP nj _ _ _ _ ?_⟩⟩
    have:=LF (n:=n) (JT (l:=o) hx)
    rw[ak.iT,ak.j4]
    simpa using this
   ·cases h
  ·cases h
theorem Zl4(hm:Mem c w)(hA:mf c R):∀{ds nX:List D} {vs:List Value},I4 R ds=some nX->(pB ds≠[]->len=true)->(∀r∈pB ds,r∉ids)->jh c w ds vs->jh (c.pass w ids dw len) w nX vs
 |[],nX,[],h,_,_,_=>by simp[I4]at h;subst h;trivial
 |[],_,_::_,_,_,_,hr=>hr.elim
 |_::_,_,[],_,_,_,hr=>hr.elim
 |d ::ds,nX,v::vs,h,hl,hd,hr=>by
  simp only[I4]at h
  split at h
  ·rename_i x xs h1 h2
   cases h
   exact⟨Zke hm hA h1 (λe=>hl (by simp[pB,e])) (λr e=>hd r (by simp[pB,e])) hr.1,Zl4 hm hA h2 (λe=>hl (by simp[pB,e])) (λr e=>hd r (by simp[pB,e])) hr.2⟩
  ·cases h
theorem Zju(hm:Mem c w)(hA:mf c R){d d':D}{v:Value}(h:conv R d=some d')(hl:EW d≠[]->len=true)(hd:∀r∈EW d,r∉ids)(hr:Rep c w d v):VRep (c.pass w ids dw len) w d' v:=by
 cases d with
 |agg cs=>
  simp only[conv,Option.map_eq_some_iff]at h
  obtain⟨rk,h1,rfl⟩:=h
  obtain⟨vs,hv,hx⟩:=hr
  exact⟨vs,hv,Zl4 hm hA h1 hl hd hx⟩
 |dt ds=>simp[conv,EV]at h
 |dead=>simp[conv,EV]at h
 |_=>
  simp only[conv]at h
  simp only[Rep,VRep]at hr
  exact VRep.Ed (Zke hm hA h hl hd hr)
theorem EU{f:Nat->Nat}:∀{ids:List Nat} {rows:List Row},AT R f ids=some rows->rows.length=ids.length/\∀(i r:Nat),ids[i]?=some r->∃row,R.getD r none=some row/\rows[i]?=some (row.jb f false)
 |[],rows,h=>by simp[AT]at h;subst h;exact⟨rfl,λi r h=>by simp at h⟩
 |r ::l,rows,h=>by
  simp only[AT]at h
  split at h
  ·rename_i row rs h1 h2
   cases h
   obtain⟨g1,g2⟩:=EU h2
   refine⟨by simp[g1],λi q hq=>?_⟩
   cases i with
   |zero=>simp at hq;subst hq;exact⟨row,h1,rfl⟩
   |succ i=>exact g2 i q (by simpa using hq)
  ·cases h
theorem I2(f:Nat->Nat)(cq:Bool)(row:Row):(row.jb f cq).box=row.box/\(row.jb f cq).ty=row.ty/\(row.jb f cq).sz=row.sz/\(row.jb f cq).es.l.length=row.es.l.length:=by
 unfold Row.jb;split<;>exact⟨rfl,rfl,rfl,rfl⟩
theorem Z03{r:Nat}:∀{l:List Nat},r∈Co R l↔ ∃q∈l,∃ty sz e,R.getD q none=some ⟨true,ty,sz,.gen [e]⟩/\r∈pB e
 |[]=>by simp[Co]
 |q ::l=>by
  simp only[Co,List.mem_append,Z03 (l:=l),cR]
  constructor
  ·rintro(h|⟨q',h1,h2⟩)
   ·split at h
    ·rename_i ty sz e he
     exact⟨q,.inl rfl,ty,sz,e,he,h⟩
    ·simp at h
   ·exact⟨q',.inr h1,h2⟩
  ·rintro⟨q',h1|h1,ty,sz,e,h2,h3⟩
   ·subst h1
    left
    rw[h2];exact h3
   ·exact .inr ⟨q',h1,ty,sz,e,h2,h3⟩
theorem Tu(hR:∀r row,r∈ids->R.getD r none=some row->c.R r=some row)(cv:AT R (λr=>pos r ids 0) ids=some dw):DK (λr=>r∈ids) (λr=>pos r ids 0) false c (c.pass w ids dw len):=by
 obtain⟨hl,hg⟩:=EU cv
 refine⟨λr row hr cb=>?_,(λh=>by cases h),aO _⟩
 have hp:=AU hr
 obtain⟨jT,h1,h2⟩:=hg _ r hp
 have:row=jT:=by have:=hR r jT hr h1;rw[cb]at this;exact Option.some.inj this
 subst this
 obtain⟨s1,s2,s3,s4⟩:=I2 (λr=>pos r ids 0) false row
 exact⟨_,h2,s1,s2,s3,s4,by simp[Ctx.pass,hp],by simp[Ctx.pass,hp]⟩
theorem XV(hm:Mem c w)(hR:∀r row,r∈ids->R.getD r none=some row->c.R r=some row)(kP:ids.Nodup)(gp:∀r∈Co R ids,r∈ids)(cv:AT R (λr=>pos r ids 0) ids=some dw):Mem (c.pass w ids dw len) w:=by
 have hn:=Tu (len:=len) (w:=w) hR cv
 obtain⟨hl,hg⟩:=EU cv
 have inv:∀i x,(c.pass w ids dw len).R i=some x->∃r row,ids[i]?=some r/\c.R r=some row/\R.getD r none=some row/\x=row.jb (λr=>pos r ids 0) false/\(c.pass w ids dw len).ρ i=c.ρ r/\((c.pass w ids dw len).V i↔c.V r):=by
  intro i x hx
  have jz:dw[i]?=some x:=hx
  have cj:=(List.getElem?_eq_some_iff.1 jz).1
  have hi:ids[i]?=some ids[i]:=cG (by omega)
  obtain⟨row,h1,h2⟩:=hg i _ hi
  rw[jz]at h2
  exact⟨_,row,hi,hR _ row (fX hi) h1,h1,Option.some.inj h2,by simp[Ctx.pass,hi],by simp[Ctx.pass,hi]⟩
 refine⟨λi x hx=>?_,λi j x y hx hy v1 v2 he=>?_,λb hb=>?_,hm.top,hm.kC.mono λb hb=>⟨.inl hb,rfl⟩⟩
 ·obtain⟨r,row,g1,g2,g3,rfl,g5,g6⟩:=inv i x hx
  refine XU hn (flat:=False) (.inl λb hb=>.inl hb) g5 g6 (λoQ e he q hq=>?_) (λe=>e.elim) (hm.row r row g2)
  obtain⟨box,ty,sz,es⟩:=row
  simp only at oQ he
  subst oQ
  have h1:∃e0,es=.gen [e0]:=by
   rcases hm.row r _ g2 with⟨_,hh,_⟩|⟨_,arr,_,_,hx⟩
   ·cases hh
   ·simp only[if_true]at hx;obtain⟨e0,h,_⟩:=hx;exact⟨e0,h⟩
  obtain⟨e0,rfl⟩:=h1
  cases he
  exact gp q (Z03.2 ⟨r,fX g1,ty,sz,e,g3,hq⟩)
 ·obtain⟨r,row,g1,g2,g3,_,g5,g6⟩:=inv i x hx
  obtain⟨s,ao,k1,k2,k3,_,k5,k6⟩:=inv j y hy
  rw[g5,k5]at he
  have:r=s:=hm.inj r s _ _ g2 k2 (λe=>v1 (g6.2 e)) (λe=>v2 (k6.2 e)) he
  subst this
  exact(List.getElem?_inj (List.getElem?_eq_some_iff.1 g1).1 kP).1 (g1.trans k1.symm)
 ·rcases hb with hb|⟨_,r,row,hr,hV,wx,HZ,rfl⟩
  ·refine⟨(hm.fh b hb).1,λi x hx v=>?_⟩
   obtain⟨r,row,g1,g2,g3,_,g5,g6⟩:=inv i x hx
   rw[g5];exact(hm.fh b hb).2 r row g2 (λe=>v (g6.2 e))
  ·refine⟨hm.lt hr hV,λi x hx v=>?_⟩
   obtain⟨s,ao,g1,g2,g3,_,g5,g6⟩:=inv i x hx
   rw[g5]
   intro e
   have:=hm.inj s r _ _ g2 hr (λe=>v (g6.2 e)) hV e
   subst this
   exact HZ (fX g1)
theorem LK(hm:Mem c w)(hA:mf c R)(hn:DK (λr=>r∈ids) (λr=>pos r ids 0) false c (c.pass w ids dw len)){ρ:Operand->Value}{ev:Operand->D}:
 ∀{bs:List Bool} {xs:List Operand} {nX:List D},sx R (λr=>pos r ids 0) bs (xs.map ev)=some nX->(lq bs (xs.map ev)≠[]->len=true)->(∀r∈lq bs (xs.map ev),r∉ids)->(∀r∈Cv bs (xs.map ev),r∈ids)->(∀x∈xs,Rep c w (ev x) (ρ x))->jY (c.pass w ids dw len) w nX (xs.map ρ)
 |bs,[],nX,h,_,_,_,_=>by cases bs<;>(try(rename_i b bs;cases b))<;>(simp[sx]at h;subst h;trivial)
 |true::bs,x::xs,nX,h,hl,hd,hi,hr=>by
  simp only[fS,sx]at h
  simp only[fS,lq,Cv]at hl hd hi
  split at h
  ·rename_i ys hv h2
   cases h
   have hx:VRep c w (ev x) (ρ x):=Rep.toV (λds e=>by rw[e]at hv;simp[D.isVal]at hv) (λe=>by rw[e]at hv;simp[D.isVal]at hv) (hr x (by simp))
   exact⟨Pm hn (flat:=False) (.inl λb hb=>.inl hb) (λr e=>hi r (by simp[e])) (λe=>e.elim) hx,LK hm hA hn h2 hl hd (λr e=>hi r (by simp[e])) λy hy=>hr y (by simp[hy])⟩
  ·cases h
 |false::bs,x::xs,nX,h,hl,hd,hi,hr=>by
  simp only[fS,sx]at h
  simp only[fS,lq,Cv]at hl hd hi
  split at h
  ·rename_i y ys h1 h2
   cases h
   exact⟨Zju hm hA h1 (λe=>hl (by simp[e])) (λr e=>hd r (by simp[e])) (hr x (by simp)),LK hm hA hn h2 (λe=>hl (by simp[e])) (λr e=>hd r (by simp[e])) hi λy hy=>hr y (by simp[hy])⟩
  ·cases h
 |[],x::xs,nX,h,hl,hd,hi,hr=>by
  simp only[fS,sx]at h
  simp only[fS,lq,Cv]at hl hd hi
  split at h
  ·rename_i y ys h1 h2
   cases h
   refine⟨Zju hm hA h1 (λe=>hl (by simp[e])) (λr e=>hd r (by simp[e])) (hr x (by simp)),LK hm hA hn h2 (λe=>hl (by simp[e])) (λr e=>hd r (by simp[e])) (λr e=>?_) λy hy=>hr y (by simp[hy])⟩
   cases xs<;>simp[Cv]at e
  ·cases h
end
theorem TS{f:Nat->Nat}:∀{ids:List Nat} {rows:List Row} {R:Rows},ids.Nodup->ids.length<=rows.length->(∀r∈ids,r<R.length)->
 (tt f ids rows R).length=R.length/\(∀(i r:Nat),ids[i]?=some r->∃row,rows[i]?=some row/\(tt f ids rows R).getD r none=some (row.jb f true))/\∀r,r∉ids->(tt f ids rows R).getD r none=R.getD r none
 |[],rows,R,_,_,_=>by
  have:tt f [] rows R=R:=by cases rows<;>rfl
  rw[this]
  exact⟨rfl,λi r h=>by simp at h,λ_ _=>rfl⟩
 |r::ids,[],R,_,hl,_=>by simp at hl
 |r ::ids,row::rows,R,kP,hl,cj=>by
  obtain⟨HZ,I1⟩:=List.nodup_cons.1 kP
  obtain⟨g1,g2,g3⟩:=TS (f:=f) (ids:=ids) (rows:=rows) (R:=R.set r (some (row.jb f true))) I1 (by simpa using hl) (λq hq=>by simpa using cj q (by simp[hq]))
  have hr:=cj r (by simp)
  have XQ:(R.set r (some (row.jb f true))).getD r none=some (row.jb f true):=by simp[aK,hr]
  have gg:∀q,q≠r->(R.set r (some (row.jb f true))).getD q none=R.getD q none:=λq hq=>by simp[aK,List.getElem?_set_ne (Ne.symm hq)]
  simp only[tt]
  refine⟨by simpa using g1,λi q hq=>?_,λq hq=>?_⟩
  ·cases i with
   |zero=>
    simp at hq;subst hq
    exact⟨row,rfl,by rw[g3 _ HZ];exact XQ⟩
   |succ i=>simpa using g2 i q (by simpa using hq)
  ·have h1:q≠r:=λe=>hq (by simp[e])
   rw[g3 q (λe=>hq (by simp[e])),gg q h1]
def Ctx.behind(c:Ctx)(w:World)(c':Ctx)(ids:List Nat)(n0:Nat)(R2:Rows):Ctx:=
 { ρ:=λr=>if n0<=r/\r<R2.length then c'.ρ (ids.length+(r-n0)) else c.ρ r,
   R:=λr=>if r∈ids\/(n0<=r/\r<R2.length) then R2.getD r none else c.R r,
   V:=λr=>if n0<=r/\r<R2.length then c'.V (ids.length+(r-n0)) else c.V r,
   I:=λb=>c.I b\/(c'.I b/\w.heap.size<=b),base:=c.base,top:=c'.top,X:=c.X}
theorem Zjb{f:Nat->Nat}{rows:List Row}{i:Nat}:(AY f rows)[i]?=rows[i]?.map λrow=>some (row.jb f true):=by simp[AY]
theorem Yg{c c':Ctx}{w w':World}{R:Rows}{ids:List Nat}{dw ai:List Row}{len:Bool}(hm:Mem c w)(hb:c.base<=w.heap.size)(nF:∀r row,r∈ids->R.getD r none=some row->c.R r=some row)(ey:∀r,R.length<=r->r<R.length+(ai.length-ids.length)->c.R r=none)
 (kP:ids.Nodup) (cv:AT R (λr=>pos r ids 0) ids=some dw) (hle:ids.length<=ai.length) (hx:lu (c.pass w ids dw len) w c' w') (jQ:∀i,c'.R i=ai[i]?)
 (hI:len=true->pW ai) {R2:Rows} (ui:R2=tt (bk ids R.length) ids ai R++AY (bk ids R.length) (ai.drop ids.length)):
 (DK (λ_=>True) (bk ids R.length) true c' (c.behind w c' ids R.length R2))/\((∀b,c'.I b->(c.behind w c' ids R.length R2).I b)\/(len=true/\∀b,c'.I b->c'.base<=b->(c.behind w c' ids R.length R2).I b))/\
 Mem (c.behind w c' ids R.length R2) w'/\jf c w (c.behind w c' ids R.length R2) w'/\Fr (λb=>∃r x,c.R r=some x/\¬c.V r/\r∈ids/\c.ρ r=b) w w'/\
 (∀b,(c.behind w c' ids R.length R2).I b->c.I b\/w.heap.size<=b)/\
 (∀r,R.length<=r->r<R2.length->¬(c.behind w c' ids R.length R2).V r->w.heap.size<=(c.behind w c' ids R.length R2).ρ r):=by
 obtain⟨gp,Aq⟩:=EU cv
 have cj:∀r∈ids,r<R.length:=λr hr=>by
  obtain⟨row,h1,_⟩:=Aq _ r (AU hr)
  by_cases hl:r<R.length
  ·exact hl
  ·rw[aK,aM (by omega)]at h1;cases h1
 obtain⟨k1,k2,k3⟩:=TS (f:=bk ids R.length) kP hle cj
 have uQ:R2.length=R.length+(ai.length-ids.length):=by rw[ui];simp[k1,AY]
 have O8:∀r,r<R.length->R2.getD r none=(tt (bk ids R.length) ids ai R).getD r none:=λr hr=>by
  rw[ui,aK,aK,aZ (by omega)]
 have XT:∀i,ids.length<=i->i<ai.length->R2.getD (R.length+(i-ids.length)) none=ai[i]?.map λrow=>row.jb (bk ids R.length) true:=λi h1 h2=>by
  rw[ui,aK,List.getElem?_append_right (by omega),Zjb,k1,show R.length+(i-ids.length)-R.length=i-ids.length by omega,fU,show ids.length+(i-ids.length)=i by omega]
  rw[cG h2];rfl
 have je:c'.base=w.heap.size:=hx.bz.base
 have ju:∀i r ao,ids[i]?=some r->c'.R i=some ao->∃row,c.R r=some row/\ao.box=row.box/\ao.ty=row.ty/\ao.sz=row.sz/\ao.es.l.length=row.es.l.length/\c'.ρ i=c.ρ r/\(c'.V i↔c.V r)/\r<R.length/\R2.getD r none=some (ao.jb (bk ids R.length) true)/\bk ids R.length i=r/\
  (¬c.V r->∀arr,w.heap[c.ρ r]?=some (.cells arr row.ty (0,0))->∃iJ,w'.heap[c.ρ r]?=some (.cells iJ row.ty (0,0))/\iJ.size=arr.size):=by
  intro i r ao hi jg
  obtain⟨row,h1,h2⟩:=Aq i r hi
  have kb:=fX hi
  have h3:=nF r row kb h1
  obtain⟨ob,g1,g2,g3,g4,g5,g6,gV,g7⟩:=hx.bz.R i _ (show(c.pass w ids dw len).R i=some _ from h2)
  rw[jg]at g1;cases g1
  obtain⟨s1,s2,s3,s4⟩:=I2 (λr=>pos r ids 0) false row
  obtain⟨kM,q1,q2⟩:=k2 i r hi
  rw[jQ,q1]at jg;cases jg
  refine⟨row,h3,g2.trans s1,g3.trans s2,g4.trans s3,g5.trans s4,by simpa[Ctx.pass,hi]using g6,by simpa[Ctx.pass,hi]using gV,cj r kb,by rw[O8 r (cj r kb)];exact q2,by simp[bk,hi],λnv arr ha=>?_⟩
  have:=g7 (by simpa[Ctx.pass,hi]using nv) arr (by simpa[Ctx.pass,hi,s2]using ha)
  simpa[Ctx.pass,hi,s2]using this
 have fresh:∀i ao,ids.length<=i->c'.R i=some ao->i<ai.length/\R2.getD (R.length+(i-ids.length)) none=some (ao.jb (bk ids R.length) true)/\bk ids R.length i=R.length+(i-ids.length)/\(¬c'.V i->w.heap.size<=c'.ρ i):=by
  intro i ao hi jg
  have h1:ai[i]?=some ao:=by rw[<-jQ];exact jg
  have h2:=(List.getElem?_eq_some_iff.1 h1).1
  refine⟨h2,by rw[XT i hi h2,h1];rfl,by simp[bk,aM hi],λnv=>?_⟩
  rcases hx.nS i ao jg nv with⟨⟨x,nm⟩,_⟩|h3
  ·have:dw[i]?=some x:=nm
   rw[aM (by omega)]at this;cases this
  ·exact h3
 have Cm:DK (λ_=>True) (bk ids R.length) true c' (c.behind w c' ids R.length R2):=by
  refine⟨λi ao _ jg=>?_,λ_=>by rw[je];exact hb,aO _⟩
  obtain⟨s1,s2,s3,s4⟩:=I2 (bk ids R.length) true ao
  by_cases hi:i<ids.length
  ·have il:ids[i]?=some ids[i]:=cG hi
   obtain⟨row,g1,g2,g3,g4,g5,g6,g7,g8,g9,g10,_⟩:=ju i _ ao il jg
   rw[g10]
   exact⟨_,by simp only[Ctx.behind];rw[if_pos (.inl (fX il))];exact g9,s1,s2,s3,s4,by simp only[Ctx.behind];rw[if_neg (by omega),g6],by simp only[Ctx.behind];rw[if_neg (by omega)];exact g7.symm⟩
  ·obtain⟨h1,h2,h3,h4⟩:=fresh i ao (by omega) jg
   rw[h3]
   have hc:R.length<=R.length+(i-ids.length)/\R.length+(i-ids.length)<R2.length:=by omega
   have he:ids.length+(R.length+(i-ids.length)-R.length)=i:=by omega
   exact⟨_,by simp only[Ctx.behind];rw[if_pos (.inr hc)];exact h2,s1,s2,s3,s4,by simp only[Ctx.behind];rw[if_pos hc,he],by simp only[Ctx.behind];rw[if_pos hc,he]⟩
 have Cw:(∀b,c'.I b->(c.behind w c' ids R.length R2).I b)\/(len=true/\∀b,c'.I b->c'.base<=b->(c.behind w c' ids R.length R2).I b):=by
  cases hl:len with
  |false=>
   refine .inl λb iq=>?_
   rcases hx.fh b iq with h1|h1
   ·rcases h1 with h1|⟨h1,_⟩
    ·exact .inl h1
    ·rw[hl]at h1;cases h1
   ·exact .inr ⟨iq,h1⟩
  |true=>exact .inr ⟨rfl,λb iq hbb=>.inr ⟨iq,by omega⟩⟩
 have BB:Fr (λb=>∃r x,c.R r=some x/\¬c.V r/\r∈ids/\c.ρ r=b) w w':=hx.fr.mono λb _ ⟨i,x,h1,h2,h3⟩=>by
  have oK:dw[i]?=some x:=h1
  have hi:i<ids.length:=by have:=(List.getElem?_eq_some_iff.1 oK).1;omega
  have il:ids[i]?=some ids[i]:=cG hi
  obtain⟨row,g1,g2⟩:=Aq i _ il
  exact⟨_,row,nF _ row (fX il) g1,by simpa[Ctx.pass,il]using h2,fX il,by simpa[Ctx.pass,il]using h3⟩
 have inv:∀r x,(c.behind w c' ids R.length R2).R r=some x->(∃i ao,c'.R i=some ao/\x=ao.jb (bk ids R.length) true/\(c.behind w c' ids R.length R2).ρ r=c'.ρ i/\((c.behind w c' ids R.length R2).V r↔c'.V i)/\(r∈ids/\ids[i]?=some r/\(c.behind w c' ids R.length R2).ρ r=c.ρ r/\((c.behind w c' ids R.length R2).V r↔c.V r)\/R.length<=r/\ids.length<=i/\r=R.length+(i-ids.length)))\/
  (c.R r=some x/\r∉ids/\(c.behind w c' ids R.length R2).ρ r=c.ρ r/\((c.behind w c' ids R.length R2).V r↔c.V r)/\¬(R.length<=r/\r<R2.length)):=by
  intro r x jz
  by_cases kb:r∈ids
  ·left
   have hp:=AU kb
   obtain⟨kM,q1,q2⟩:=k2 _ r hp
   have pR:c'.R (pos r ids 0)=some kM:=by rw[jQ];exact q1
   obtain⟨row,g1,g2,g3,g4,g5,g6,g7,g8,g9,g10,_⟩:=ju _ r kM hp pR
   simp only[Ctx.behind]at jz
   rw[if_pos (.inl kb),g9]at jz
   cases jz
   have e1:(c.behind w c' ids R.length R2).ρ r=c.ρ r:=by simp only[Ctx.behind];rw[if_neg (by omega)]
   have e2:(c.behind w c' ids R.length R2).V r↔c.V r:=by simp only[Ctx.behind];rw[if_neg (by omega)]
   exact⟨_,kM,pR,rfl,by rw[e1,g6],by rw[e2,g7],.inl ⟨kb,hp,e1,e2⟩⟩
  ·by_cases hc:R.length<=r/\r<R2.length
   ·left
    have hi:ids.length+(r-R.length)<ai.length:=by omega
    have pR:c'.R (ids.length+(r-R.length))=some ai[ids.length+(r-R.length)]:=by rw[jQ];exact cG hi
    obtain⟨h1,h2,h3,h4⟩:=fresh _ _ (by omega) pR
    simp only[Ctx.behind]at jz
    rw[if_pos (.inr hc)]at jz
    rw[show R.length+(ids.length+(r-R.length)-ids.length)=r by omega]at h2
    rw[h2]at jz
    cases jz
    exact⟨_,_,pR,rfl,by simp only[Ctx.behind];rw[if_pos hc],by simp only[Ctx.behind];rw[if_pos hc],.inr ⟨hc.1,by omega,by omega⟩⟩
   ·right
    simp only[Ctx.behind]at jz
    rw[if_neg (by rintro(h|h)<;>contradiction)]at jz
    exact⟨jz,kb,by simp only[Ctx.behind];rw[if_neg hc],by simp only[Ctx.behind];rw[if_neg hc],hc⟩
 have pA:jf c w (c.behind w c' ids R.length R2) w':=by
  refine⟨rfl,hx.bz.top,λb iq=>⟨.inl iq,?_⟩,λr row hr=>?_⟩
  ·exact(hx.bz.I b (.inl iq)).2
  ·by_cases kb:r∈ids
   ·have hp:=AU kb
    obtain⟨kM,q1,q2⟩:=k2 _ r hp
    have pR:c'.R (pos r ids 0)=some kM:=by rw[jQ];exact q1
    obtain⟨jT,g1,g2,g3,g4,g5,g6,g7,g8,g9,g10,g11⟩:=ju _ r kM hp pR
    rw[hr]at g1;cases g1
    obtain⟨s1,s2,s3,s4⟩:=I2 (bk ids R.length) true kM
    exact⟨_,by simp only[Ctx.behind];rw[if_pos (.inl kb)];exact g9,s1.trans g2,s2.trans g3,s3.trans g4,s4.trans g5,by simp only[Ctx.behind];rw[if_neg (by omega)],by simp only[Ctx.behind];rw[if_neg (by omega)],g11⟩
   ·have hc:¬(R.length<=r/\r<R2.length):=λhc=>by rw[ey r hc.1 (by omega)]at hr;cases hr
    refine⟨row,by simp only[Ctx.behind];rw[if_neg (by rintro(h|h)<;>contradiction)];exact hr,rfl,rfl,rfl,rfl,by simp only[Ctx.behind];rw[if_neg hc],by simp only[Ctx.behind];rw[if_neg hc],λnv arr ha=>⟨arr,?_,rfl⟩⟩
    rw[BB.heap _ (hm.lt hr nv) fun⟨s,x,h1,h2,h3,h4⟩=>kb (by rw[<-hm.inj s r x row h1 hr h2 nv h4];exact h3)]
    exact ha
 refine⟨Cm,Cw,⟨λr x jz=>?_,λr s x y hr hs v1 v2 he=>?_,λb iq=>?_,hx.mem.top,hm.kC.mono pA.I⟩,pA,BB,λb iq=>?_,λr h1 h2 h3=>?_⟩
 ·rcases inv r x jz with⟨i,ao,h1,rfl,h3,h4,_⟩|⟨h1,h2,h3,h4,h5⟩
  ·refine XU Cm Cw h3 h4 (λ_ _ _ _ _=>trivial) (λhf=>?_) (hx.mem.row i ao h1)
   exact Zjh (hI hf) (by rw[<-jQ];exact h1)
  ·exact tC pA h3 h4 (λnv=>BB.heap _ (hm.lt h1 nv) fun⟨s,x',g1,g2,g3,g4⟩=>h2 (by rw[<-hm.inj s r x' x g1 h1 g2 nv g4];exact g3)) (hm.row r x h1)
 ·have G3:∀i ao,c'.R i=some ao->¬c'.V i->(∃q,q∈ids/\ids[i]?=some q/\(∃y,c.R q=some y)/\¬c.V q/\c'.ρ i=c.ρ q)\/w.heap.size<=c'.ρ i:=λi ao h1 nv=>by
   by_cases hi:i<ids.length
   ·have il:ids[i]?=some ids[i]:=cG hi
    obtain⟨row,g1,g2,g3,g4,g5,g6,g7,_⟩:=ju i _ ao il h1
    exact .inl ⟨_,fX il,il,⟨row,g1⟩,λe=>nv (g7.2 e),g6⟩
   ·exact .inr ((fresh i ao (by omega) h1).2.2.2 nv)
  rcases inv r x hr with⟨i,x',h1,_,h3,h4,h5⟩|⟨h1,h2,h3,h4,h5⟩<;>rcases inv s y hs with⟨j,y',g1,_,g3,g4,g5⟩|⟨g1,g2,g3,g4,g5⟩
  ·have:i=j:=hx.mem.inj i j x' y' h1 g1 (λe=>v1 (h4.2 e)) (λe=>v2 (g4.2 e)) (by rw[<-h3,<-g3];exact he)
   subst this
   rcases h5 with⟨_,q1,_⟩|⟨_,q1,q2⟩<;>rcases g5 with⟨_,p1,_⟩|⟨_,p1,p2⟩
   ·rw[q1]at p1;exact Option.some.inj p1
   ·have:=(List.getElem?_eq_some_iff.1 q1).1;omega
   ·have:=(List.getElem?_eq_some_iff.1 p1).1;omega
   ·omega
  ·exfalso
   have nv:=λe=>v1 (h4.2 e)
   have ns:=λe=>v2 (g4.2 e)
   rw[h3,g3]at he
   rcases G3 i x' h1 nv with⟨q,q1,q2,⟨z,q3⟩,q4,q5⟩|q
   ·exact g2 (by rw[<-hm.inj q s z y q3 g1 q4 ns (by rw[<-q5];exact he)];exact q1)
   ·have:=hm.lt g1 ns;omega
  ·exfalso
   have nv:=λe=>v2 (g4.2 e)
   have ns:=λe=>v1 (h4.2 e)
   rw[h3,g3]at he
   rcases G3 j y' g1 nv with⟨q,q1,q2,⟨z,q3⟩,q4,q5⟩|q
   ·exact h2 (by rw[<-hm.inj q r z x q3 h1 q4 ns (by rw[<-q5];exact he.symm)];exact q1)
   ·have:=hm.lt h1 ns;omega
  ·exact hm.inj r s x y h1 g1 (λe=>v1 (h4.2 e)) (λe=>v2 (g4.2 e)) (by rw[<-h3,<-g3];exact he)
 ·rcases iq with iq|⟨iq,pk⟩
  ·refine⟨Nat.lt_of_lt_of_le (hm.fh b iq).1 BB.size,λr x hr v=>?_⟩
   rcases inv r x hr with⟨i,x',h1,_,h3,h4,h5⟩|⟨h1,h2,h3,h4,h5⟩
   ·have:=(hx.mem.fh b ((hx.bz.I b (.inl iq)).1)).2 i x' h1 (λe=>v (h4.2 e))
    rw[h3];exact this
   ·rw[h3];exact(hm.fh b iq).2 r x h1 (λe=>v (h4.2 e))
  ·refine⟨(hx.mem.fh b iq).1,λr x hr v=>?_⟩
   rcases inv r x hr with⟨i,x',h1,_,h3,h4,h5⟩|⟨h1,h2,h3,h4,h5⟩
   ·rw[h3];exact(hx.mem.fh b iq).2 i x' h1 (λe=>v (h4.2 e))
   ·have:=hm.lt h1 (λe=>v (h4.2 e))
    rw[h3];omega
 ·rcases iq with h|⟨_,h⟩
  ·exact .inl h
  ·exact .inr h
 ·have hi:ids.length+(r-R.length)<ai.length:=by omega
  have pR:c'.R (ids.length+(r-R.length))=some ai[ids.length+(r-R.length)]:=by rw[jQ];exact cG hi
  obtain⟨_,_,_,h4⟩:=fresh _ _ (by omega) pR
  simp only[Ctx.behind,if_pos (show R.length<=r/\r<R2.length from⟨h1,h2⟩)]at h3⊢
  exact h4 h3
theorem X0(args:List D):Cv [] args=[]:=by cases args<;>rfl
theorem Zef(R:Rows)(args:List D):lX R [] args=[]:=by
 unfold lX;rw[X0];rfl
theorem XX{P:Program}{x:ba}(dr:bj P x){f:FuncId}(hf:x.f=f)(hy:x.f<YB){dst:Option Tmp}{args:Array Operand}{c9:Array TypeId}{type:TypeId}{pos:String}{after:Array Edge}{guard:Option (Nat×Bool)}{a:Act}{w:World}{K:Act->World->Prop}{Q:Exit->Act->World->Prop}
 (h:Calls P x.f (args.toList.map a.eval).toArray w λe w'=>∃v,e=.returned v/\K (a.put dst v) w'):(⟨dst,.call ⟨.value (.func f),args,c9⟩,type,pos,after,guard⟩:Oper).mN P a w K Q:=by
 have gz:(execOp a.eval (⟨dst,.call ⟨.value (.func f),args,c9⟩,type,pos,after,guard⟩:Oper)).run P w=.ok (.enter f (args.toList.map a.eval).toArray) w:=by
  simp only[execOp,resolve,Act.eval,Deferred.ofValue,Sem.run_bind,Sem.run_pure,Result.andThen_ok,invoke,Array.empty_append,Array.append_empty]
  rw[<-hf,dr.enters hy,<-bR,bS]
 unfold Oper.mN
 rw[gz]
 show Calls P f _ w _
 rw[<-hf]
 exact h
theorem vQ {P:Program}{G:List ba}(hG:jO P G){dst:Option Tmp}{f:FuncId}{args:Array Operand}{c9:Array TypeId}{type:TypeId}{pos':String}{after:Array Edge}{guard:Option (Nat×Bool)}{ev:Operand->D}{R:Rows}{K:D->Rows->Prop}
    (lz:oJ G f=none) (h:sE G f (args.toList.map ev) R K): ∃val R' x,K val R'/\oA G f=some x/\Ee P ⟨dst, .call ⟨.value (.func f),args,c9⟩,type,pos',after,guard⟩ ev R val R'/\(x.refs=[]->pn P ⟨dst, .call ⟨.value (.func f),args,c9⟩,type,pos',after,guard⟩ ev R val R'):=by
  unfold sE at h
  split at h
  . rename_i x hx
    have uU:x.gone=none:=by simpa [oJ,hx] using lz
    obtain⟨dr,hf⟩:=FE hG hx
    split at h
    . rename_i az dw has iN
      simp only[c7,Bool.or_eq_true,aE]at h
      obtain⟨⟨⟨Ff,h1,h2⟩,h3,h4⟩,h⟩:=h
      generalize I3:lX R x.refs (args.toList.map ev)=ids at*
      have uj:=LI.1 h1
      have gp:=LI.1 h2
      have kP:=LJ.1 h3
      have oj:=Tn.1 h4
      have main : ∀res ai,ids.length<=ai.length->K (res.sD (bk ids R.length) true) (tt (bk ids R.length) ids ai R++AY (bk ids R.length) (ai.drop ids.length))->jZ P x.f az dw res ai->(x.flat=true->FF res/\pW ai)->
          ∃val R' y,K val R'/\oA G f=some y/\Ee P ⟨dst, .call ⟨.value (.func f),args,c9⟩,type,pos',after,guard⟩ ev R val R'/\(y.refs=[]->pn P ⟨dst, .call ⟨.value (.func f),args,c9⟩,type,pos',after,guard⟩ ev R val R'):=by
        intro res ai hle hK hA jJ
        let len:=match lq x.refs (args.toList.map ev) with|[]=>false|_=>true
        have hlen:lq x.refs (args.toList.map ev)≠[]->len=true:=by
          intro gg
          show(match lq x.refs (args.toList.map ev) with|[]=>false|_=>true)=true
          split
          . contradiction
          . rfl
        have wD:len=true->x.flat=true:=by
          intro hl
          rcases Ff with h|h
          . exact h.1
          . exfalso
            have hl:(match lq x.refs (args.toList.map ev) with|[]=>false|_=>true)=true:=hl
            split at h
            . rename_i e;rw[e]at hl;cases hl
            . cases h
        have core: ∀(c:Ctx) (w:World) (a:Act),Mem c w->c.base<=w.heap.size->mf c R->(∀r row,r∈ids->R.getD r none=some row->c.R r=some row)->(∀r,R.length<=r->r<R.length+(ai.length-ids.length)->c.R r=none)->(∀y∈args.toList,Rep c w (ev y) (a.eval y))->
            ∀(K':Act->World->Prop) (Q:Exit->Act->World->Prop),(∀v w' c',lu (c.pass w ids dw len) w c' w'->(∀i,c'.R i=ai[i]?)->Rep (c.behind w c' ids R.length (tt (bk ids R.length) ids ai R++AY (bk ids R.length) (ai.drop ids.length))) w' (res.sD (bk ids R.length) true) v->K' (a.put dst v) w')->
            (⟨dst, .call ⟨.value (.func f),args,c9⟩,type,pos',after,guard⟩:Oper).mN P a w K' Q:=by
          intro c w a hm hb oI nF ey eg K' Q pJ
          have hn:=Tu (len:=len) (w:=w) nF iN
          have ft:=LK (len:=len) (ρ:=a.eval) hm oI hn has hlen oj uj eg
          have lP:=hA (c.pass w ids dw len) w _ (XV hm nF kP gp iN) rfl (λr=>rfl) ft
          refine XX dr hf (dr.real uU) (lP.mono λe w' sw=> ?_)
          obtain⟨v,c',he,nh,jQ,kF⟩:=sw
          obtain⟨g1,g2,_⟩:=Yg hm hb nF ey kP iN hle nh jQ (λe=>(jJ (wD e)).2) rfl
          exact⟨v,he,pJ v w' c' nh jQ (XW g1 g2 (λ_=>trivial) (λe=>(jJ (wD e)).1) kF)⟩
        have gl: ∀(c:Ctx) (w:World) (a:Act),(∀y∈(⟨dst, .call ⟨.value (.func f),args,c9⟩,type,pos',after,guard⟩:Oper).op.operands,Rep c w (ev y) (a.eval y))-> ∀y∈args.toList,Rep c w (ev y) (a.eval y):=λc w a eg y hy=>eg y (by simp [Op.operands,Call.operands];exact .inr (by simpa using hy))
        refine⟨_,_,x,hK,hx,λc w a hm hb hR eg K' Q pJ=> ?_,λhrefs=> ?_⟩
        . have oI:mf c R:=λr row ao g1 g2=>by rw[hR,g2]at g1;exact(Option.some.inj g1).symm
          have nF: ∀r row,r∈ids->R.getD r none=some row->c.R r=some row:=λr row _ e=>by rw[hR];exact e
          have ey: ∀r,R.length<=r->r<R.length+(ai.length-ids.length)->c.R r=none:=λr e _=>by rw[hR,aK,aM e];rfl
          refine core c w a hm hb oI nF ey (gl c w a eg) K' Q λv w' c' nh jQ kF=> ?_
          obtain⟨g1,g2,g3,g4,g5,g6,g7⟩:=Yg hm hb nF ey kP iN hle nh jQ (λe=>(jJ (wD e)).2) rfl
          have uQ:(tt (bk ids R.length) ids ai R).length=R.length:=(TS kP hle (λr hr=>by
            obtain⟨row,q1,_⟩:=(EU iN).2 _ r (AU hr)
            by_cases hl:r<R.length
            . exact hl
            . rw[aK,aM (by omega)]at q1;cases q1)).1
          have iP:=TS (f:=bk ids R.length) kP hle (λr hr=>by
            obtain⟨row,q1,_⟩:=(EU iN).2 _ r (AU hr)
            by_cases hl:r<R.length
            . exact hl
            . rw[aK,aM (by omega)]at q1;cases q1)
          refine pJ v w' _ ⟨g3,g4,g5.mono λb _ ⟨r,y,k1,k2,_,k4⟩=>⟨r,y,k1,k2,k4⟩,g6,λr ao hr hv=> ?_⟩ (λr=> ?_) kF
          . by_cases hc:R.length<=r/\r<(tt (bk ids R.length) ids ai R++AY (bk ids R.length) (ai.drop ids.length)).length
            . exact .inr (g7 r hc.1 hc.2 hv)
            . left
              simp only[Ctx.behind,if_neg hc]at hv⊢
              refine⟨?_,hv,trivial⟩
              simp only[Ctx.behind]at hr
              split at hr
              . rename_i G4
                rcases G4 with G4|G4
                . obtain⟨row,q1,_⟩:=(EU iN).2 _ r (AU G4)
                  exact⟨row,nF r row G4 q1⟩
                . contradiction
              . exact⟨_,hr⟩
          . simp only[Ctx.behind]
            split
            . rfl
            . rename_i G4
              have h1:r∉ids:=λe=>G4 (.inl e)
              by_cases cj:r<R.length
              . rw[aK,aZ (by omega),<-aK,iP.2.2 r h1,hR]
              . rw[hR,aK,aM (by omega),aK,aM (by
                  by_cases h2:r<(tt (bk ids R.length) ids ai R++AY (bk ids R.length) (ai.drop ids.length)).length
                  . exact(G4 (.inr ⟨by omega,h2⟩)).elim
                  . omega)]
        . have Pn:ids=[]:=by rw[<-I3,hrefs];exact Zef R _
          subst Pn
          have pL:tt (bk [] R.length) [] ai R=R:=by cases ai<;>rfl
          rw[pL]
          simp only[dJ,gC]at*
          refine⟨⟨_,rfl⟩,λc w a hm hb oI ey eg K' Q pJ=> ?_⟩
          have nF: ∀r row,r∈([]:List Nat)->R.getD r none=some row->c.R r=some row:=λr row e=>by cases e
          have G5: ∀r,R.length<=r->r<R.length+(ai.length-0)->c.R r=none:=λr e1 e2=>ey r e1 (by simp [AY];omega)
          refine core c w a hm hb oI nF G5 (gl c w a eg) K' Q λv w' c' nh jQ kF=> ?_
          obtain⟨g1,g2,g3,g4,g5,g6,g7⟩:=Yg hm hb nF G5 kP iN hle nh jQ (λe=>(jJ (wD e)).2) rfl
          rw[pL]at g3 g4 g6 g7 kF
          simp only[dJ,gC]at g3 g4 g6 g7 kF
          refine pJ v w' _ ⟨g3,g4,g5.mono (λb _ ⟨r,y,k1,k2,k3,k4⟩=>(by cases k3)),g6,λr=> ?_,λr hr=> ?_,λr k1 k2=>g7 r k1 k2⟩ kF
          . simp [Ctx.behind]
          . simp only[Ctx.behind]
            rw[if_neg (by omega),if_neg (by omega)]
            exact⟨rfl,Iff.rfl⟩
      split at h
      . rename_i res ai hm
        simp only[DO,c7,D.cf,mO]at h
        obtain⟨h5,h6⟩:=dr.ok uU _ _ _ _ hm
        exact main res ai (lE h.1) h.2 h5 h6
      . rename_i p res ai hm
        simp only[DO,c7,D.cf,mO]at h
        obtain⟨h5,h6⟩:=dr.when uU _ _ _ _ _ hm h.1
        exact main res ai (lE h.2.1) h.2.2 h5 h6
      . rename_i α v res ai hm
        have h:=h v rfl
        simp only[DO,c7,D.cf,mO]at h
        obtain⟨h5,h6⟩:=dr.abs uU _ _ _ _ _ _ hm
        exact main (res v) (ai v) (lE h.1) h.2 h5 h6
      . rename_i p α v res ai hm
        obtain⟨hp,h⟩:=h
        have h:=h v rfl
        simp only[DO,c7,D.cf,mO]at h
        obtain⟨h5,h6⟩:=dr.lr uU _ _ _ _ _ _ _ hm hp
        exact main (res v) (ai v) (lE h.1) h.2 h5 h6
      . exact h.elim
    . exact h.elim
  . exact h.elim
theorem Z7d{f:Nat->Nat}:∀{ds:List D},TT ds=true->D.lZ f true ds=ds
 |[],_=>rfl
 |d ::l,h=>by
  simp only[TT]at h
  split at h
  ·rename_i hd
   simp only[D.lZ,Z7d h]
   cases d<;>first|(simp[Po]at hd;done)|simp[D.lY]
  ·cases h
theorem Zda{f:Nat->Nat}{d:D}(h:sF d=true):d.jb f true=d:=by
 cases d with
 |agg cs=>show D.agg (D.lZ f true cs)=_;rw[Z7d h]
 |_=>first|(simp[sF,Po]at h;done)|simp[D.jb,D.lY]
theorem Z7{f:Nat->Nat}:∀{ds:List D},TU ds=true->D.Ay f true ds=ds
 |[],_=>rfl
 |d ::l,h=>by
  simp only[TU]at h
  split at h
  ·rename_i hd
   simp only[D.Ay,Z7 h,Zda hd]
  ·cases h
theorem Zme{f:Nat->Nat}{d:D}(h:uo d=true):d.sD f true=d:=by
 cases d with
 |dt ds=>show D.dt (D.Ay f true ds)=_;rw[Z7 h]
 |agg cs=>exact Zda (d:=.agg cs) h
 |_=>first|(simp[uo,sF,Po]at h;done)|simp[D.sD,D.jb,D.lY]
theorem XZ{R:Rows}(f g:Nat->Nat):∀{ds:List D},sx R f [] ds=sx R g [] ds
 |[]=>rfl
 |d::l=>by simp only[sx,XZ f g (ds:=l)]
theorem qR{G:List ba}{f:FuncId}{args:List D}{R:Rows}{K:D->Rows->Prop}(h:JY G f args R K):sE G f args R K:=by
 unfold JY at h
 split at h
 ·rename_i x hx
  split at h
  ·rename_i hrefs
   split at h
   ·rename_i az has
    simp only[c7]at h
    have hv:∀{res:D} {ai:List Row},LV R res ai K->DO R [] res ai K:=by
     intro res ai h
     have pL:tt (bk [] R.length) [] ai R=R:=by cases ai<;>rfl
     simp only[DO,c7,dJ,gC,pL]
     refine⟨by simp,?_⟩
     unfold LV at h
     split at h
     ·simp only[c7,D.cf]at h
      rw[Zme h.1]
      simp only[D.cf,mO,AY,List.map_nil,List.append_nil]
      exact h.2
     ·exact h
    unfold sE
    simp only[hx,hrefs,Zef]
    rw[XZ _ (λr=>r),has]
    simp only[AT,c7,X0]
    refine⟨?_,?_⟩
    ·have:∀l:List Nat,ny l []=true:=λl=>by
      rw[Tn];intro r _ hr;cases hr
     simp only[o7,Co,DN,this,Bool.and_true]
     have h1:=h.1
     revert h1
     cases lq [] args<;>simp[Cx]
    ·revert h
     cases x.m az []with
     |no=>exactλh=>h.2
     |ok res ai=>exactλh=>hv h.2
     |«when»p res ai=>exactλh=>⟨h.2.1,hv h.2.2⟩
     |abs α v res ai=>exactλh X hX=>hv (h.2 X hX)
     |lr p α v res ai=>exactλh=>⟨h.2.1,λX hX=>hv (h.2.2 X hX)⟩
   ·exact h.elim
  ·exact h
 ·exact h.elim
theorem Vv{P:Program}{G:List ba}(hG:jO P G){dst:Option Tmp}{f:FuncId}{args:Array Operand}{c9:Array TypeId}{type:TypeId}{pos':String}{after:Array Edge}{guard:Option (Nat×Bool)}{ev:Operand->D}{R:Rows}{K:D->Rows->Prop}
 (lz:oJ G f=none) (h:JY G f (args.toList.map ev) R K):∃val R' x,K val R'/\oA G f=some x/\Ee P ⟨dst,.call ⟨.value (.func f),args,c9⟩,type,pos',after,guard⟩ ev R val R'/\(x.refs=[]->pn P ⟨dst,.call ⟨.value (.func f),args,c9⟩,type,pos',after,guard⟩ ev R val R'):=
 vQ hG lz (qR h)
