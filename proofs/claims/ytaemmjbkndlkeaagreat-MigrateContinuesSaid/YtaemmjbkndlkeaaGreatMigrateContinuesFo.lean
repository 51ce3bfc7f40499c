import Derived.Test.YtaemmjbkndlkeaaGreatMigrateContinuesFp
open List renaming getD->aV,getElem?_eq_none->aJ,getElem?_append_left->bI,getElem?_take->aF,getElem?_drop->fI,getElem?_eq_getElem->aI,getElem?_toArray->bH,map_cons->fG,map_toArray->bV,mem_cons->cQ,mem_map->fR,mem_of_getElem?->fL,length_nil->dE,drop_zero->fS
open Nat renaming le_refl->aX,zero_add->bG,add_assoc->fP
open Option renaming getD_some->aR
open Bool renaming false_eq_true->aA
open Array renaming toArray_toList->bW,extract_eq_self_of_le->fQ
set_option linter.all false
namespace Go.GD
open Go
variable {G:List bc}{I I':ae}{K:Act->World->Prop}{P:Program}{Q:Exit->Act->World->Prop}{a:Act}{after:Array Edge}{args:Array Operand}{d d' val:D}{dst:Option Tmp}{ev:Operand->D}{i:Nat}{pos':String}{row:Row}{type:TypeId}{dj:Array TypeId}{v:Value}{vs:List Value}{w w':World}
structure JM(c:Ctx)(w:World)(R R':Rows)(c':Ctx)(w':World):Prop where
 mem:Mem c' w'
 cz:iX c w c' w'
 fr:Fr (λ_=>False) w w'
 fe:∀b,c'.I b->c.I b\/w.heap.size<=b
 rows:∀r,c'.R r=if R.length<=r/\r<R'.length then R'.getD r none else c.R r
 jv:∀r,r<R.length\/R'.length<=r->c'.ρ r=c.ρ r/\(c'.V r↔c.V r)
 new:∀r,R.length<=r->r<R'.length->¬c'.V r->w.heap.size<=c'.ρ r
structure lB(c:Ctx)(w:World)(c':Ctx)(w':World):Prop where
 mem:Mem c' w'
 cz:iX c w c' w'
 fr:Fr (λb=>∃r x,c.R r=some x/\¬c.V r/\c.ρ r=b) w w'
 fe:∀b,c'.I b->c.I b\/w.heap.size<=b
 nT:∀r ao,c'.R r=some ao->¬c'.V r->((∃row,c.R r=some row)/\¬c.V r/\c'.ρ r=c.ρ r)\/w.heap.size<=c'.ρ r
def Pu(P:Program)(o:Oper)(a:Act)(next:Act->World->Prop):Result Next->Prop
 |.ok (.value v) w'=>next (a.put o.dst v) w'
 |.ok .skip w'=>next (a.put o.dst undef) w'
 |.ok (.enter f args) w'=>Calls P f args w' λe GO=>∃v,e=.returned v/\next (a.put o.dst v) GO
 |.ok (.round l f tmps assign body) w'=>RoundIn Fence.wide 0 P l f tmps assign body w' λe GO=>∃v,e=.returned v/\next (a.put o.dst v) GO
 |_=>False
def _root_.Go.Oper.mW(P:Program)(o:Oper)(a:Act)(w:World)(next:Act->World->Prop)(_:Exit->Act->World->Prop):Prop:=Pu P o a next ((execOp a.eval o).run P w)
theorem FN{o:Oper}{u:Value}(h:(execOp a.eval o).run P w=.ok (.value u) w')(hK:K (a.put o.dst u) w'):o.mW P a w K Q:=by
 unfold Oper.mW;rw[h];exact hK
theorem yS{o:Oper}(h:(execOp a.eval o).run P w=.ok .skip w')(hK:K (a.put o.dst undef) w'):o.mW P a w K Q:=by
 unfold Oper.mW;rw[h];exact hK
theorem V1{P:Program}{o:Oper}{a:Act}{w:World}{K K':Act->World->Prop}{Q Q':Exit->Act->World->Prop}(h:∀a w,K a w->K' a w)(hh:o.mW P a w K Q):o.mW P a w K' Q':=by
 unfold Oper.mW at hh⊢
 revert hh
 generalize(execOp a.eval o).run P w=r
 intro hh
 cases r with
 |halt _ _=>exact hh.elim
 |ok n w'=>
  cases n with
  |value v=>exact h _ _ hh
  |skip=>exact h _ _ hh
  |enter f args=>exact Calls.mono hh λe w' ⟨v,he,hk⟩=>⟨v,he,h _ _ hk⟩
  |round l f tmps assign body=>exact RoundIn.mono hh λe w' ⟨v,he,hk⟩=>⟨v,he,h _ _ hk⟩
  |_=>exact hh.elim
def pz(P:Program)(o:Oper)(ev:Operand->D)(R:Rows)(val:D)(R':Rows):Prop:=
 (∃news,R'=R++news)/\∀(c:Ctx) (w:World) (a:Act),Mem c w->c.base<=w.heap.size->lU c R->(∀r,R.length<=r->r<R'.length->c.R r=none)->(∀x∈o.op.operands,Rep c w (ev x) (a.eval x))->
  ∀K Q,(∀v w' c',JM c w R R' c' w'->Rep c' w' val v->K (a.put o.dst v) w')->o.mW P a w K Q
def DV(P:Program)(o:Oper)(ev:Operand->D)(R:Rows)(val:D)(R':Rows):Prop:=
 ∀ (c:Ctx) (w:World) (a:Act),Mem c w->c.base<=w.heap.size->(∀r,c.R r=R.getD r none)->(∀x∈o.op.operands,Rep c w (ev x) (a.eval x))->
  ∀K Q,(∀v w' c',lB c w c' w'->(∀r,c'.R r=R'.getD r none)->Rep c' w' val v->K (a.put o.dst v) w')->o.mW P a w K Q
theorem pz.toW{o:Oper}{R:Rows}{R':Rows}(h:pz P o ev R val R'):DV P o ev R val R':=by
 obtain⟨⟨news,hn⟩,h⟩:=h
 intro c w a hm hb hR ei K Q hK
 refine h c w a hm hb (λr row ao h1 h2=>by rw[hR,h2]at h1;exact(Option.some.inj h1).symm) (λr h1 _=>by rw[hR];simp[aV,aJ h1]) ei K Q λv w' c' hs hr=>?_
 refine hK v w' c' ⟨hs.mem,hs.cz,hs.fr.mono (λb _ hf=>hf.elim),hs.fe,λr ao pw hv=>?_⟩ (λr=>?_) hr
 ·by_cases h1:R.length<=r/\r<R'.length
  ·exact .inr (hs.new r h1.1 h1.2 hv)
  ·rw[hs.rows,if_neg h1]at pw
   obtain⟨h2,h3⟩:=hs.jv r (by omega)
   exact .inl ⟨⟨_,pw⟩,λe=>hv (h3.2 e),h2⟩
 ·rw [hs.rows,hR]
  split
  ·rfl
  ·rename_i h1
   subst hn
   by_cases h2:r<R.length
   ·simp[aV,bI h2]
   ·have h3:(R++news).length<=r:=by omega
    simp[aV,aJ h3,aJ (show R.length<=r by omega)]
theorem mq{o:Oper}{R:Rows}(h:∀(c:Ctx) (w:World) (a:Act),Mem c w->lU c R->(∀x∈o.op.operands,Rep c w (ev x) (a.eval x))->∃u,(execOp a.eval o).run P w=.ok (.value u) w/\Rep c w val u):pz P o ev R val R:=by
 refine⟨⟨[],by simp⟩,λc w a hm hb hA _ ei K Q hK=>?_⟩
 obtain⟨u,hu,hr⟩:=h c w a hm hA ei
 exact FN hu (hK u w c ⟨hm,iX.refl c w,Fr.refl _ w,λb hb=>.inl hb,λr=>by rw[if_neg (by omega)],λ_ _=>⟨rfl,Iff.rfl⟩,λr h1 h2=>by omega⟩ hr)
theorem Pv{o:Oper}{R:Rows}(h:∀(c:Ctx) (w:World) (a:Act),Mem c w->lU c R->(∀x∈o.op.operands,Rep c w (ev x) (a.eval x))->
 ∃x:Sem Value,execOp a.eval o=(do pure (.value (<-x)))/\Pw P x w c R.length row val):pz P o ev R val (R++[some row]):=by
 refine⟨⟨[some row],rfl⟩,λc w a hm hb hA e6 ei K Q hK=>?_⟩
 obtain⟨x,hx,u,arr,hu,hi,hr⟩:=h c w a hm hA ei
 have hk:c.R R.length=none:=e6 R.length (aX _) (by simp)
 have ie:(execOp a.eval o).run P w=.ok (.value u) (w.alloc (.cells arr row.ty)):=by
  rw[hx,Sem.run_bind,hu];rfl
 refine FN ie (hK u _ (c.add R.length row w.heap.size) ⟨hm.alloc hk row arr hi.1 hi.2,iX.alloc hm hk row _,Fr.alloc _ w _,λb hb=>.inl hb,λr=>?_,λr hr=>?_,λr h1 h2 _=>?_⟩ (hr hk hm))
 ·by_cases e:r=R.length
  ·subst e
   simp[Ctx.add,aV]
  ·have:¬(R.length<=r/\r<(R++[some row]).length):=by simp;omega
   rw[if_neg this]
   simp[Ctx.add,e]
 ·have:r≠R.length:=by simp at hr;omega
  simp[Ctx.add,this]
 ·have:r=R.length:=by simp at h2;omega
  simp[Ctx.add,this]
def FM:Op->Bool|.store _ _ _=>true|_=>false
theorem Zrh{c:Ctx}{cs:List D}(h:je c w cs vs)(o n:Nat):je c w ((cs.drop o).take n) ((vs.drop o).take n):=by
 rw[DG]at h⊢
 obtain⟨h1,h2⟩:=h
 refine⟨by simp[h1],λj v hv=>?_⟩
 simp only[aF,fI]at hv
 split at hv
 ·rename_i hj
  have:=h2 (o+j) v hv
  simp only[aV,aF,fI,hj,if_true]at this⊢
  exact this
 ·cases hv
theorem v8{c:Ctx}:∀{dj:List ta} {az:List D} {vs:List Value},je c w az vs->fits dj az=true->pJ vs.toArray 0 az
 |dj,az,vs,h,hf=>by
  intro j d hj
  have bg:=(List.getElem?_eq_some_iff.1 hj).1
  have hl:=h.length
  have hv:vs[j]?=some vs[j]:=aI (by omega)
  have hr:=(DG.1 h).2 j _ hv
  simp only[aV,hj,aR]at hr
  have hs :∀{dj:List ta} {az:List D} {j:Nat},fits dj az=true->az[j]?=some d->(∃k n,d=.int k n)\/(∃b,d=.bool b)\/∃s,d=.str s:=by
   intro dj
   induction dj with
   |nil=>intro az j hf hj;cases az<;>simp[fits]at hf;simp at hj
   |cons t ts ih=>
    intro az j hf hj
    cases az with
    |nil=>cases t<;>simp[fits]at hf
    |cons e es=>
     cases t<;>simp only[fits,aE,aA]at hf
     all_goals
      cases j with
      |succ j=>exact ih hf.2 (by simpa using hj)
      |zero=>
       simp at hj
       subst hj
       cases e<;>simp[D.isInt,D.isBool,D.isStr]at hf⊢
  simp only[bG,bH,hv]
  rcases hs hf hj with⟨k,n,rfl⟩|⟨b,rfl⟩|⟨s,rfl⟩<;>(simp only[dc]at hr;rw[hr];rfl)
theorem YH{c:Ctx}{w:World}:∀{ds:List D} {vs:List Value},j5 c w ds vs->∀i,i<ds.length->∃v,vs[i]?=some v/\VRep c w (ds.getD i .dead) v
 |[],[],_,i,h=>by simp at h
 |d::ds,v::vs,h,0,_=>⟨v,rfl,h.1⟩
 |d::ds,v::vs,h,i+1,hi=>by
  obtain⟨u,hu,hr⟩:=YH h.2 i (by simpa using hi)
  exact⟨u,by simpa using hu,by simpa using hr⟩
 |[],_::_,h,_,_=>h.elim
 |_::_,[],h,_,_=>h.elim
theorem zas{x:iy}(h:Ct d=some x):x.d=d:=by
 have go:∀{cs:List iy} {ps:List (Nat×Nat×Nat)},Px cs=some ps->ps.map HB=cs:=by
  intro cs
  induction cs with
  |nil=>intro ps h;simp[Px]at h;subst h;rfl
  |cons y l ih=>
   intro ps h
   simp only[Px]at h
   split at h
   ·rename_i p qs h1 h2
    cases h
    simp only[fG,ih h2]
    cases y<;>simp[GR]at h1
    subst h1;rfl
   ·cases h
 cases d<;>simp only[Ct]at h<;>first|(cases h;done)|skip
 case gj f cs=>
  split at h
  ·rename_i ps hp;cases h;simp only[iy.d,go hp]
  ·cases h
 all_goals(cases h;rfl)
theorem Wd{c:Ctx}{w:World}{ev:Operand->D}{ρ:Operand->Value}:∀{xs:List Operand} {cs:List iy},J1 (xs.map ev)=some cs->(∀x∈xs,Rep c w (ev x) (ρ x))->oy c w cs (xs.map ρ)
 |[],cs,h,_=>by simp[J1]at h;subst h;trivial
 |x ::xs,cs,h,hr=>by
  simp only[fG,J1]at h
  split at h
  ·rename_i y ys h1 h2
   cases h
   refine⟨?_,Wd h2 λz hz=>hr z (by simp[hz])⟩
   have:=hr x (by simp)
   rw[<-zas h1]at this
   rw[VW]
   cases y<;>exact this
  ·cases h
theorem Z7{T:iu}(hT:Q4 P T)(o:Oper)(ev:Operand->D)(R:Rows)(K:D->Rows->Prop)(h:gz T o.op ev R K):
 ∃val R',K val R'/\(if FM o.op then DV P o ev R val R' else pz P o ev R val R'):=by
 obtain⟨dst,op,type,pos,after,guard⟩:=o
 simp only at h
 cases op<;>(try simp only[gz]at h)<;>try(exact h.elim)
 case makeFunc fn first captured=>
  cases fn<;>simp only at h<;>try(exact h.elim)
  rename_i f
  simp only[dd,aE]at h
  obtain⟨⟨h0,hy⟩,h⟩:=h
  split at h
  ·rename_i cs hc
   refine⟨_,_,h,mq λc w a hm hA ei=>?_⟩
   have hf:first= #[]:=Array.eq_empty_of_size_eq_zero (bE h0)
   subst hf
   refine⟨.func (.func f) #[] (captured.map a.eval),?_,captured.toList.map a.eval,?_,Wd hc λx hx=>ei x (by simp[Op.operands];simpa using hx)⟩
   ·simp only[execOp,Instr.makeFunc,Sem.run_bind,Sem.run_pure,Array.map_empty];rfl
   ·exact .inl ⟨lE hy,by rw[<-bV,bW]⟩
  ·exact h.elim
 case move x=>
  rw[D.c8]at h
  exact⟨_,_,h,mq λc w a hm hA ei=>⟨_,rfl,ei x (by simp[Op.operands])⟩⟩
 case assign x=>
  rw[D.c8]at h
  exact⟨_,_,h,mq λc w a hm hA ei=>⟨_,rfl,ei x (by simp[Op.operands])⟩⟩
 case alloc t=>
  split at h
  ·rename_i ht
   simp only[dd,aE,J0]at h
   obtain⟨⟨h0,hl⟩,h⟩:=h
   exact⟨_,_,h,Pv λc w a hm hA ei=>⟨_,rfl,Zpq hT ht (lE h0) (bE hl) R.length c w⟩⟩
  ·exact h.elim
 case box t x=>
  split at h
  ·rename_i ht
   simp only[dd,aE,J0,D.e7]at h
   obtain⟨⟨⟨h0,hv⟩,hl⟩,h⟩:=h
   exact⟨_,_,h,Pv λc w a hm hA ei=>⟨_,rfl,zaJ (lE h0) hv (bE hl) R.length c w (ei x (by simp[Op.operands]))⟩⟩
  ·exact h.elim
 case build t parts=>
  obtain⟨val,hK,hr⟩:=yT hT h
  refine⟨_,_,hK,mq λc w a hm hA ei=>?_⟩
  obtain⟨u,hu,hx⟩:=hr c w a.eval (λp hp=>ei p.2 (by simp[Op.operands];exact⟨p.1,by simpa using hp⟩))
  refine⟨u,?_,hx⟩
  simp only[execOp]
  rw[Sem.run_bind,show parts.map (λx=>(x.1,a.eval x.2))=(parts.toList.map λp=>(p.1,a.eval p.2)).toArray from by rw[<-bV,bW],hu]
  rfl
 case buildSlice t len parts=>
  obtain⟨h1,h2⟩:=YI.1 h
  cases hl:Un t len
  rotate_left
  ·obtain⟨row,val,hK,hr⟩:=Zn2 hT (h1 hl)
   refine⟨_,_,hK,Pv λc w a hm hA ei=>⟨_,?_,hr c w a.eval (λp hp=>ei p.2 (by simp[Op.operands];exact⟨p.1,by simpa using hp⟩))⟩⟩
   simp only[execOp]
   rw[show parts.map (λx=>(x.1,a.eval x.2))=(parts.toList.map λp=>(p.1,a.eval p.2)).toArray from by rw[<-bV,bW]]
  have h:=h2 hl
  obtain⟨val,hK,hr⟩:=Zsa hT h
  refine⟨_,_,hK,⟨[],by simp⟩,λc w a hm hb hA _ ei K Q hK=>?_⟩
  obtain⟨u,arr,ty,hu,hx⟩:=hr c w a.eval hb (λp hp=>ei p.2 (by simp[Op.operands];exact⟨p.1,by simpa using hp⟩))
  have ie:(execOp a.eval (⟨dst,.buildSlice t len parts,type,pos,after,guard⟩:Oper)).run P w=.ok (.value u) (w.alloc (.cells arr ty)):=by
   simp only[execOp]
   rw[Sem.run_bind,show parts.map (λx=>(x.1,a.eval x.2))=(parts.toList.map λp=>(p.1,a.eval p.2)).toArray from by rw[<-bV,bW],hu]
   rfl
  exact FN ie (hK u _ (c.fe w.heap.size) ⟨qas hm _,Um hm _,Fr.alloc _ w _,λb hb=>hb.elim .inl (λe=>.inr (by omega)),λr=>by rw[if_neg (by omega)];rfl,λ_ _=>⟨rfl,Iff.rfl⟩,λr h1 h2=>by omega⟩ (hx hm))
 case load t x=>
  obtain⟨val,hK,hr⟩:=Zgs hT h
  refine⟨_,_,hK,mq λc w a hm hA ei=>?_⟩
  obtain⟨u,hu,hx⟩:=hr c w _ hm hA (ei x (by simp[Op.operands]))
  exact⟨u,by simp only[execOp];rw[Sem.run_bind,hu];rfl,hx⟩
 case store t x y=>
  obtain⟨R',hK,hr⟩:=Zrz hT h
  refine⟨_,_,hK,?_⟩
  simp only[FM,if_true]
  intro c w a hm hb hR ei K Q hK
  obtain⟨r,ao,arr,w',ie,Yg,⟨row,c6⟩,hV,hg,lY,jV⟩:=hr c w _ _ hm hR (ei x (by simp[Op.operands])) (ei y (by simp[Op.operands]))
  refine yS (w':=w') ?_ (hK undef w' _ ⟨lY,hg,?_,λb hb=>.inl hb,λs ss hs hv=>?_⟩ jV trivial)
  ·simp only[execOp];rw[Sem.run_bind,ie];rfl
  rotate_left
  ·by_cases e:s=r
   ·exact .inl ⟨⟨row,by rw[e];exact c6⟩,hv,rfl⟩
   ·exact .inl ⟨⟨ss,by simpa[Ctx.jK,e]using hs⟩,hv,rfl⟩
  ·rw[Yg]
   exact(RV w _ arr).mono λb _ e=>⟨r,row,c6,hV,e.symm⟩
 case nilCheck x=>
  have go:∀d,ev x=d->(∃a b c,d=.ptr a b c)\/(∃a b c e,d=.im a b c e)->K d R->∃val R',K val R'/\pz P ⟨dst,.nilCheck x,type,pos,after,guard⟩ ev R val R':=by
   intro d hd Py hK
   refine⟨_,_,hK,mq λc w a hm hA ei=>?_⟩
   have hx:=ei x (by simp[Op.operands])
   rw[hd]at hx
   have hp:∃q,a.eval x=.pointer (some q):=by
    rcases Py with⟨r,i,off,rfl⟩|⟨sz,es,i,off,rfl⟩
    ·obtain⟨_,_,_,_,hv⟩:=hx;exact⟨_,hv⟩
    ·obtain⟨_,_,_,_,_,hv,_⟩:=hx;exact⟨_,hv⟩
   obtain⟨q,hq⟩:=hp
   refine⟨a.eval x,?_,hx⟩
   simp only[execOp,hq,Sem.run_pure]
  split at h
  ·rename_i hd;exact go _ hd (.inl ⟨_,_,_,rfl⟩) h
  ·rename_i hd;exact go _ hd (.inr ⟨_,_,_,_,rfl⟩) h
  ·exact h.elim
 case binOp op t x y ty=>
  have fin:∀(val:D),(∀c w u v,Rep c w (ev x) u->Rep c w (ev y) v->∃z,(do eqGuard op t x y u v;binOp op t u v).run P w=.ok z w/\Rep c w val z)->pz P ⟨dst,.binOp op t x y ty,type,pos,after,guard⟩ ev R val R:=λval hv=>
   mq λc w a hm hA ei=>by
    obtain⟨z,hz,hr⟩:=hv c w _ _ (ei x (by simp[Op.operands])) (ei y (by simp[Op.operands]))
    refine⟨z,?_,hr⟩
    simp only[execOp]
    rw[Sem.run_bind,hz];rfl
  unfold sB at h
  split at h
  ·rename_i k a k' b hx hy
   split at h
   ·simp only[dd,decide_eq_true_eq]at h
    refine⟨_,_,h.2,fin _ λc w u v hu hv=>?_⟩
    rw[hx]at hu;rw[hy]at hv
    rw[Rep.int.1 hu,Rep.int.1 hv]
    exact⟨_,by rw[Sem.run_bind,YJ];exact(Zh7 h.1 w).1,rfl⟩
   ·simp only[dd,decide_eq_true_eq]at h
    refine⟨_,_,h.2,fin _ λc w u v hu hv=>?_⟩
    rw[hx]at hu;rw[hy]at hv
    rw[Rep.int.1 hu,Rep.int.1 hv]
    exact⟨_,by rw[Sem.run_bind,YJ];exact(Zh7 h.1 w).2,rfl⟩
   ·rename_i h1 h2
    simp only[dd,decide_eq_true_eq]at h
    obtain⟨rfl,h⟩:=h
    obtain⟨d,hK,hr⟩:=xas (P:=P) (t:=t) ⟨λe=>h1 e,λe=>h2 e⟩ h
    refine⟨_,_,hK,fin _ λc w u v hu hv=>?_⟩
    rw[hx]at hu;rw[hy]at hv
    rw[Rep.int.1 hu,Rep.int.1 hv]
    obtain⟨z,hz,YL⟩:=hr w
    exact⟨z,by rw[Sem.run_bind,YJ];exact hz,YL c⟩
  ·rename_i a b hx hy
   obtain⟨d,hK,hr⟩:=qat (P:=P) (t:=t) (op:=op) (a:=a) (b:=b) (K:=λd=>K d R) h
   refine⟨_,_,hK,fin _ λc w u v hu hv=>?_⟩
   rw[hx]at hu;rw[hy]at hv
   rw[Rep.str.1 hu,Rep.str.1 hv]
   obtain⟨z,hz,YL⟩:=hr w
   exact⟨z,by rw[Sem.run_bind,Zoe];exact hz,YL c⟩
  ·rename_i a b hx hy
   split at h
   ·rename_i ht
    have hd:=mo hT ht
    simp only at hd
    split at h
    ·refine⟨_,_,h,fin _ λc w u v hu hv=>?_⟩
     rw[hx]at hu;rw[hy]at hv
     rw[Rep.bool.1 hu,Rep.bool.1 hv]
     refine⟨_,?_,rfl⟩
     rw[Sem.run_bind,Z1x]
     simp only[binOp]
     simp[Op.equal,Op.maxDepth,run_equalIn_bool' w 9999 t a b hd]
    ·refine⟨_,_,h,fin _ λc w u v hu hv=>?_⟩
     rw[hx]at hu;rw[hy]at hv
     rw[Rep.bool.1 hu,Rep.bool.1 hv]
     refine⟨_,?_,rfl⟩
     rw[Sem.run_bind,Z1x]
     simp only[binOp]
     simp[Op.equal,Op.maxDepth,run_equalIn_bool' w 9999 t a b hd]
    ·exact h.elim
   ·exact h.elim
  ·rename_i a b hx hy
   split at h
   ·rename_i ti ht
    simp only[dd,aE]at h
    obtain⟨⟨⟨⟨⟨Cs,h0⟩,he⟩,fa⟩,fb⟩,h⟩:=h
    obtain⟨i0,pn,Bm,_,JR,wR,_,heq,hc,d0,EO⟩:=De (hT.get ht)
    have h0:0<ti.size:=lE h0
    rw[heq]at he
    simp only[aE,Bool.not_eq_true']at he
    rw[hc]at fa fb
    have kb:P.cellsOf t=(lQ P 8 t).length:=by rw[<-hc,JR];simp[Program.cellsOf,pn,Bm]
    have uc:0<P.cellsOf t:=by simp[Program.cellsOf,pn,Bm,h0]
    have Pz:∀c w u v,Rep c w (ev x) u->Rep c w (ev y) v->∃us vs:Array Value,u=.agg us/\v=.agg vs/\(Op.equalIn 10000 t (.agg us) (.agg vs)).run P w=.ok (eqs a b) w:=by
     intro c w u v hu hv
     rw[hx]at hu;rw[hy]at hv
     obtain⟨us,hu,ru⟩:=hu
     obtain⟨vs,hv,rv⟩:=hv
     refine⟨us.toArray,vs.toArray,hu,hv,?_⟩
     have I0:=YM (P:=P) 8 t 10000 (by omega) he.2 kb uc us.toArray vs.toArray 0 a b w fa fb (v8 ru fa) (v8 rv fb)
     have hlu:=ru.length;have hlv:=rv.length
     have hla:=sC fa;have YN:=sC fb
     have tY:Ps d0=true:=by rw[<-LP EO,<-wR];exact Cs
     simp only[oi,Sem.run_bind,Uo EO tY uc,Result.andThen_ok]at I0
     rw[show us.toArray.extract 0 (0+P.cellsOf t)=us.toArray from by apply fQ;simp;omega,show vs.toArray.extract 0 (0+P.cellsOf t)=vs.toArray from by apply fQ;simp;omega]at I0
     exact I0
    split at h
    ·refine⟨_,_,h,fin _ λc w u v hu hv=>?_⟩
     obtain⟨us,vs,rfl,rfl,hr⟩:=Pz c w u v hu hv
     refine⟨_,?_,rfl⟩
     rw[Sem.run_bind,run_eqGuard_agg w _ _ _ _ _ _ he.1,Result.andThen_ok,run_eql_struct,hr];rfl
    ·refine⟨_,_,h,fin _ λc w u v hu hv=>?_⟩
     obtain⟨us,vs,rfl,rfl,hr⟩:=Pz c w u v hu hv
     refine⟨_,?_,rfl⟩
     rw[Sem.run_bind,run_eqGuard_agg w _ _ _ _ _ _ he.1,Result.andThen_ok,run_neq_struct,hr];rfl
    ·exact h.elim
   ·exact h.elim
  ·exact h.elim
 case unOp op t x=>
  split at h
  ·rename_i k n hx
   refine⟨_,_,h,mq λc w a hm hA ei=>?_⟩
   have:=ei x (by simp[Op.operands])
   rw[hx]at this
   exact⟨_,by simp only[execOp,Rep.int.1 this,Op.unary,Op.intArith,Sem.run_bind,Sem.run_pure];rfl,rfl⟩
  ·rename_i k n hx
   refine⟨_,_,h,mq λc w a hm hA ei=>?_⟩
   have:=ei x (by simp[Op.operands])
   rw[hx]at this
   exact⟨_,by simp only[execOp,Rep.int.1 this,Op.unary,Op.intBits,Sem.run_bind,Sem.run_pure];rfl,rfl⟩
  ·rename_i b hx
   refine⟨_,_,h,mq λc w a hm hA ei=>?_⟩
   have:=ei x (by simp[Op.operands])
   rw[hx]at this
   exact⟨_,by simp only[execOp,Rep.bool.1 this,Op.unary,Sem.run_bind,Sem.run_pure];rfl,rfl⟩
  ·exact h.elim
 case convert s d x=>
  obtain⟨val,hK,hr⟩:=zat hT h
  refine⟨_,_,hK,mq λc w a hm hA ei=>?_⟩
  obtain⟨u,hu,hx⟩:=hr c w _ (ei x (by simp[Op.operands]))
  exact⟨u,by simp only[execOp];rw[Sem.run_bind,hu];rfl,hx⟩
 case makeSlice t l cp=>
  split at h
  ·rename_i kl n kc m hl hc
   obtain⟨row,val,hK,hr⟩:=qv (kl:=kl) (kc:=kc) hT h
   refine⟨_,_,hK,Pv λc w a hm hA ei=>⟨_,rfl,?_⟩⟩
   have h1:=ei l (by simp[Op.operands]);have h2:=ei cp (by simp[Op.operands])
   rw[hl]at h1;rw[hc]at h2
   rw[Rep.int.1 h1,Rep.int.1 h2]
   exact hr c w
  ·exact h.elim
 case slice t x lo hi mx=>
  cases mx with
  |some m=>simp only at h
  |none=>
   simp only at h
   obtain⟨val,hK,hr⟩:=zT hT h
   refine⟨_,_,hK,mq λc w a hm hA ei=>?_⟩
   obtain⟨u,hu,hx⟩:=hr c w _ a.eval hm hA (ei x (by simp[Op.operands])) (λy hy=>ei y (by simp[Op.operands,hy])) (λy hy=>ei y (by simp[Op.operands,hy]))
   exact⟨u,by simp only[execOp];rw[Sem.run_bind];simp only[Option.map_none];rw[hu];rfl,hx⟩
 case fieldAddr s x f=>
  split at h
  ·rename_i o q n hf
   simp only[dd]at h
   obtain⟨h0,h⟩:=h
   have h0:0<n:=lE h0
   obtain⟨fs,fd,g1,g2,g3,g4,g5⟩:=Z28 hT hf
   split at h
   ·rename_i r i off hx
    refine⟨_,_,h,mq λc w a hm hA ei=>?_⟩
    have:=ei x (by simp[Op.operands])
    rw[hx]at this
    obtain⟨row,k1,kV,k2,hv⟩:=this
    refine⟨_,by simp only[execOp,hv];rw[Sem.run_bind,Z68 g1 g2 (by simp only at g5;omega)];rfl,row,k1,kV,k2,by rw[g3,fP]⟩
   ·rename_i sz es i off hx
    refine⟨_,_,h,mq λc w a hm hA ei=>?_⟩
    have:=ei x (by simp[Op.operands])
    rw[hx]at this
    obtain⟨b,oo,arr,ty,fz,hv,hI,hi,hh,hE⟩:=this
    refine⟨_,by simp only[execOp,hv];rw[Sem.run_bind,Z68 g1 g2 (by simp only at g5;omega)];rfl,b,oo,arr,ty,fz,by rw[g3,fP],hI,hi,hh,hE⟩
   ·exact h.elim
  ·exact h.elim
 case field s x f=>
  split at h
  ·rename_i o q n hf
   obtain⟨fs,fd,g1,g2,g3,g4,g5⟩:=Z28 hT hf
   simp only at g4 g5
   split at h
   ·rename_i cs ti hx ht
    simp only[dd,aE]at h
    obtain⟨⟨h0,hle⟩,h⟩:=h
    have h0:0<n:=lE h0
    have hle:=lE hle
    obtain⟨_,_,_,_,_,wR,_,_,_,d0,EO⟩:=De (hT.get ht)
    have run:∀(vs:List Value) (w:World) (r:Value),(part q vs.toArray o).run P w=.ok r w->(Instr.field s (.agg vs.toArray) f).run P w=.ok r w:=λvs w r hr=>by
     simp only[Instr.field,Sem.run_bind,run_underlying g1,Result.andThen_ok,g2,asAgg,Sem.run_pure,g4,g3,hr]
    split at h
    ·rename_i Cs
     rw[D.e7]at h
     refine⟨_,_,h,mq λc w a hm hA ei=>?_⟩
     have:=ei x (by simp[Op.operands])
     rw[hx]at this
     obtain⟨vs,hv,hr⟩:=this
     have hp:=Uo (P:=P) EO (by rw[<-LP EO,<-wR];exact Cs) (by rw[<-g4,g5];exact h0) vs.toArray o w
     refine⟨_,by simp only[execOp,hv];rw[Sem.run_bind,run vs w _ hp];rfl,(vs.drop o).take n,?_,Zrh hr o n⟩
     rw[<-g4,g5]
     congr 1
     simp[List.extract_toArray,List.extract_eq_take_drop]
    ·rename_i Cs
     simp only[D.c8]at h
     obtain⟨wu,h⟩:=h
     refine⟨_,_,h,mq λc w a hm hA ei=>?_⟩
     have:=ei x (by simp[Op.operands])
     rw[hx]at this
     obtain⟨vs,hv,hr⟩:=this
     have hl:=hr.length
     have ir:vs[o]?=some vs[o]:=aI (by omega)
     have hp:=GS (P:=P) (t:=q) EO (by rw[<-LP EO,<-wR];exact Cs) (xs:=vs.toArray) (o:=o) (v:=vs[o]) (by rw[bH];exact ir) w
     refine⟨_,by simp only[execOp,hv];rw[Sem.run_bind,run vs w _ hp];rfl,?_⟩
     have hc:=(DG.1 hr).2 o _ ir
     generalize cs.getD o .dead=d at*
     cases d<;>first|exact hc|trivial|exact hc.elim
   ·exact h.elim
  ·exact h.elim
 case indexAddr t x ix=>
  split at h
  ·rename_i k n hn
   obtain⟨val,hK,hr⟩:=Zrr (k:=k) hT h
   refine⟨_,_,hK,mq λc w a hm hA ei=>?_⟩
   have h2:=ei ix (by simp[Op.operands])
   rw[hn]at h2
   obtain⟨u,hu,hx⟩:=hr c w _ hm hA (ei x (by simp[Op.operands]))
   exact⟨u,by simp only[execOp,Rep.int.1 h2];rw[Sem.run_bind,hu];rfl,hx⟩
  ·exact h.elim
 case index t x ix=>
  split at h
  ·rename_i s k n ht hx hn
   have hd:=mo hT ht
   simp only at hd
   simp only[dd,decide_eq_true_eq]at h
   obtain⟨⟨h1,h2⟩,h⟩:=h
   refine⟨_,_,h,mq λc w a hm hA ei=>?_⟩
   have e1:=ei x (by simp[Op.operands]);have e2:=ei ix (by simp[Op.operands])
   rw[hx]at e1;rw[hn]at e2
   refine⟨_,?_,rfl⟩
   have bg:n.toNat<s.length:=by omega
   have hg:(ByteArray.mk s.toArray)[n.toNat]?=some (s.getD n.toNat 0):=by
    have h3:n.toNat<(ByteArray.mk s.toArray).size:=by simpa[ByteArray.size]using bg
    rw[getElem?_pos (ByteArray.mk s.toArray) n.toNat h3]
    simp only[aV,aI bg,aR]
    rfl
   simp only[execOp,Rep.str.1 e1,Rep.int.1 e2,Instr.index,asIntOf,Sem.run_bind,Sem.run_pure,Result.andThen_ok,run_underlying hd,h1,if_true,hg]
  ·rename_i len e iD _ _ _ _ _ cs k n ht hx hn
   have hd:=mo hT ht
   simp only at hd
   obtain⟨hd,fp⟩:=hd
   simp only[dd,aE,decide_eq_true_eq]at h
   obtain⟨⟨q1,q2,q3,q4⟩,h⟩:=h
   have q1:=bE q1
   have q2:=bE q2
   have run:∀(vs:List Value) (v:Value) (w:World) (d:TypeDesc),P.underlying e=some d->Ps d=false->vs[n.toNat]?=some v->(Instr.index t (.agg vs.toArray) (.int k n)).run P w=.ok v w:=λvs v w d hu hda hv=>by
    have h0:0<P.cellsOf e:=by omega
    simp only[Instr.index,asIntOf,Sem.run_bind,Sem.run_pure,Result.andThen_ok,run_underlying hd,Sem.run_ite,q3,q4,and_self,if_true,Ah h0]
    rw[fp,q1,Nat.mul_one]
    exact GS hu hda (by rw[bH];exact hv) w
   have cell:∀(c:Ctx) (w:World) (a:Act),Rep c w (.agg cs) (a.eval x)->∃vs:List Value,a.eval x=.agg vs.toArray/\∃v,vs[n.toNat]?=some v/\dc c w (cs.getD n.toNat .dead) v:=λc w a hr=>by
    obtain⟨vs,hv,hr⟩:=hr
    have hl:=hr.length
    have ir:vs[n.toNat]?=some vs[n.toNat]:=aI (by omega)
    exact⟨vs,hv,_,ir,(DG.1 hr).2 _ _ ir⟩
   split at h
   ·rename_i kk _ _ _ _ _ he
    have hu:=mo hT he
    simp only at hu
    obtain⟨h1,h⟩:=h
    refine⟨_,_,h,mq λc w a hm hA ei=>?_⟩
    have e1:=ei x (by simp[Op.operands]);have e2:=ei ix (by simp[Op.operands])
    rw[hx]at e1;rw[hn]at e2
    obtain⟨vs,hv,v,g1,g2⟩:=cell c w a e1
    have hi:=Ui h1 (n:=n.toNat) (by omega)
    rw[bG]at hi
    rw[D.j0 hi]at g2
    refine⟨v,?_,?_⟩
    ·simp only[execOp,Rep.int.1 e2,hv]
     rw[Sem.run_bind,run vs v w _ hu rfl g1];rfl
    ·rw[Ug (show n.toNat<len by omega),bG]
     exact g2
   ·rename_i he
    have hu:=mo hT he
    simp only at hu
    obtain⟨h1,h⟩:=h
    refine⟨_,_,h,mq λc w a hm hA ei=>?_⟩
    have e1:=ei x (by simp[Op.operands]);have e2:=ei ix (by simp[Op.operands])
    rw[hx]at e1;rw[hn]at e2
    obtain⟨vs,hv,v,g1,g2⟩:=cell c w a e1
    have hi:=Uj h1 (n:=n.toNat) (by omega)
    rw[bG]at hi
    rw[D.j4 hi]at g2
    refine⟨v,?_,?_⟩
    ·simp only[execOp,Rep.int.1 e2,hv]
     rw[Sem.run_bind,run vs v w _ hu rfl g1];rfl
    ·rw[Uh (show n.toNat<len by omega),bG]
     exact g2
   ·exact h.elim
  ·exact h.elim
 case extract x i=>
  split at h
  ·rename_i ds hx
   simp only[dd,D.c8]at h
   obtain⟨hv,h⟩:=h
   refine⟨_,_,h,mq λc w a hm hA ei=>?_⟩
   have:=ei x (by simp[Op.operands])
   rw[hx]at this
   obtain⟨vs,Bs,hr⟩:=this
   have bg:i<ds.length:=by
    by_cases hl:i<ds.length
    ·exact hl
    ·rw[aV,aJ (by omega)]at hv;simp[D.isVal]at hv
   obtain⟨v,VE,hvr⟩:=YH hr i bg
   refine⟨v,?_,?_⟩
   ·simp only[execOp,Bs,Instr.extract,bH,VE];rfl
   ·generalize ds.getD i .dead=d at*
    cases d<;>first|exact hvr|trivial|exact hvr.elim
  ·exact h.elim
 case call cl=>
  obtain⟨callee,args,dj⟩:=cl
  cases callee<;>try(simp only at h)
  case builtin b=>
  cases b<;>try(simp only at h)
  case len=>
   split at h
   ·rename_i x t hx ht
    obtain⟨val,hK,hr⟩:=qaJ (t':=type) hT h
    refine⟨_,_,hK,mq λc w a hm hA ei=>?_⟩
    have fq:args= #[x]:=by rw[<-bW (xs:=args),hx]
    have tT:dj= #[t]:=by rw[<-bW (xs:=dj),ht]
    subst fq;subst tT
    obtain⟨u,hu,hx⟩:=hr c w _ hm hA (ei x (by simp[Op.operands,Call.operands]))
    refine⟨u,?_,hx⟩
    simp only[execOp,resolve,Sem.run_bind,Sem.run_pure,Result.andThen_ok,invoke,builtin]
    have:(#[x]:Array Operand).map a.eval= #[a.eval x]:=by simp
    rw[this,hu];rfl
   ·exact h.elim
def Ctx.kill(c:Ctx)(ks:List Nat):Ctx:={c with R:=λr=>if cv r ks=true then none else(c.R r).map (Row.kill ks)}
structure jE(ks:List Nat)(c:Ctx)(w:World)(c':Ctx)(w':World):Prop where
 mem:Mem c' w'
 cz:iX (c.kill ks) w c' w'
 fr:Fr (λb=>∃r x,c.R r=some x/\¬c.V r/\c.ρ r=b) w w'
 fe:∀b,c'.I b->c.I b\/(∃s row,cv s ks=true/\c.R s=some row/\¬c.V s/\c.ρ s=b)\/w.heap.size<=b
 nT:∀r ao,c'.R r=some ao->¬c'.V r->((∃row,c.R r=some row)/\¬c.V r/\c'.ρ r=c.ρ r)\/(∃s row,cv s ks=true/\c.R s=some row/\¬c.V s/\c'.ρ r=c.ρ s)\/w.heap.size<=c'.ρ r
def kg(P:Program)(f:FuncId)(args:List D)(rows:List Row)(res:D)(aj:List Row):Prop:=
 ∀ (c:Ctx) (w:World) (vs:List Value),Mem c w->c.base=w.heap.size->(∀r,c.R r=rows[r]?)->j5 c w args vs->
  Calls P f vs.toArray w λe w'=>∃v c',e=.returned v/\lB c w c' w'/\(∀r,c'.R r=aj[r]?)/\Rep c' w' res v
def FC(P:Program)(I:ae)(f:FuncId)(vs:List Value)(w:World)(R:Ending->World->Prop):Prop:=
 (f<YB->Calls P f vs.toArray w R)/\
 (YB<=f->∀l rec xs us,vs=xs++us->I l->w.heap[l]?=some (.loop rec)->PA f us rec->xs.length=1->
  RoundIn Fence.wide 0 P l rec.fn ((rec.params.zip xs.toArray).foldl (λtmps (t,a)=>tmps.setIfInBounds t a) rec.tmps) rec.assign rec.body w R)
theorem FC.mono{f:FuncId}{R R':Ending->World->Prop}(h:FC P I f vs w R)(hI:∀b,I' b->I b)(hR:∀e w',R e w'->R' e w'):FC P I' f vs w R':=
 ⟨λhf=>(h.1 hf).mono hR,λhf l rec xs us h1 h2 h3 h4 h5=>(h.2 hf l rec xs us h1 (hI l h2) h3 h4 h5).mono hR⟩
theorem FC.real{f:FuncId}{R:Ending->World->Prop}(hf:f<YB)(h:Calls P f vs.toArray w R):FC P I f vs w R:=⟨λ_=>h,λhg=>absurd hf (Nat.not_lt.2 hg)⟩
def tC(P:Program)(f:FuncId)(k:Nat)(args:List D)(rows:List Row)(res:D)(aj:List Row):Prop:=
 ∀ (c:Ctx) (w:World) (vs:List Value),Mem c w->c.base=0->(∀r,c.R r=rows[r]?)->j5 c w args vs->
  FC P c.I f vs w λe w'=>∃v c',e=.returned v/\jE (List.range' k (rows.length-k)) c w c' w'/\(∀r,c'.R r=aj[r]?)/\Rep c' w' res v
def mM:D->Prop|.int _ _=>True|.bool _=>True|.str _=>True|.c9=>True|.iC=>True|.emp=>True|_=>False
def CT.mM:CT->Bool|.int _=>true|.bool=>true|.str=>true|_=>false
def RK.mM(k:RK):Bool:=k.sig.all CT.mM
def ai.EP:ai->Prop
 |.gen es=>∀e∈es,∀d∈e,mM d
 |.ah k _=>k.mM=true
 |_=>True
theorem Zb7:∀{ts:List CT} {cs:List D} {j:Nat},ts.all CT.mM=true->∀d∈uP ts cs j,mM d
 |[],_,_,_,d,h=>by simp[uP]at h
 |t ::ts,cs,j,ht,d,h=>by
  simp only[List.all_cons,aE]at ht
  simp only[uP,cQ]at h
  rcases h with h|h
  ·subst h
   cases t<;>first|trivial|(simp[CT.mM]at ht)
  ·exact Zb7 ht.2 d h
theorem ai.Cu{E:ai}(h:E.EP):∀e∈E.l,∀d∈e,mM d:=by
 cases E with
 |gen es=>exact h
 |ints k l=>
  intro e he d hd
  simp only[ai.l,fR]at he
  obtain⟨n,_,rfl⟩:=he
  simp at hd
  subst hd;trivial
 |ag l=>
  intro e he d hd
  simp only[ai.l,fR]at he
  obtain⟨n,_,rfl⟩:=he
  simp at hd
  subst hd;trivial
 |ah k l=>
  intro e he d hd
  simp only[ai.l,fR]at he
  obtain⟨x,_,rfl⟩:=he
  rw[<-RK.nS]at hd
  exact Zb7 h d hd
def PB:D->Prop
 |.sl _ es fr=>(es.Nil\/fr=true)/\es.EP
 |.im _ _ _ _=>False
 |.gj _ _=>False
 |_=>True
def LS:List D->Prop
 |[]=>True
 |d::ds=>PB d/\LS ds
def Up:D->Prop
 |.agg cs=>LS cs
 |d=>PB d
def ER:List D->Prop
 |[]=>True
 |d::ds=>Up d/\ER ds
def FF:D->Prop
 |.dv ds=>ER ds
 |d=>Up d
def I1(row:Row):Prop:=if row.box then∀e∈row.es.l,LS e else row.es.EP
def re:List Row->Prop
 |[]=>True
 |r::l=>I1 r/\re l
structure bm(P:Program)(x:bc):Prop where
 enters:x.f<YB->∀args w,(callFunc x.f args).run P w=.ok (.enter x.f args) w
 real:x.gone=none->x.f<YB
 ok:x.gone=none->∀args rows res aj,x.m args rows=.ok res aj->kg P x.f args rows res aj/\(x.flat=true->FF res/\re aj)
 when:x.gone=none->∀args rows p res aj,x.m args rows=.when p res aj->p->kg P x.f args rows res aj/\(x.flat=true->FF res/\re aj)
 abs:x.gone=none->∀args rows α v res aj,x.m args rows=.abs α v res aj->kg P x.f args rows (res v) (aj v)/\(x.flat=true->FF (res v)/\re (aj v))
 kY:x.gone=none->∀args rows p α v res aj,x.m args rows=.kY p α v res aj->p->kg P x.f args rows (res v) (aj v)/\(x.flat=true->FF (res v)/\re (aj v))
 Pp:∀k,x.gone=some k->∀args rows α v res aj,x.m args rows=.abs α v res aj->tC P x.f k args rows (res v) (aj v)
 GN:∀k,x.gone=some k->∀args rows p α v res aj,x.m args rows=.kY p α v res aj->p->tC P x.f k args rows (res v) (aj v)
def jr(P:Program)(G:List bc):Prop:=∀x∈G,bm P x
theorem FL{P:Program}:∀{G:List bc} {f:FuncId} {x:bc},jr P G->oA G f=some x->bm P x/\x.f=f
 |[],f,x,_,h=>by simp[oA]at h
 |y ::l,f,x,hG,h=>by
  simp only[oA]at h
  split at h
  ·rename_i hb
   simp at h;subst h
   exact⟨hG y (by simp),bE hb⟩
  ·exact FL (λz hz=>hG z (by simp[hz])) h
theorem Zof:∀{rows:List Row} {i:Nat} {row:Row},re rows->rows[i]?=some row->I1 row
 |r::l,0,row,h,hi=>by simp at hi;subst hi;exact h.1
 |r::l,i+1,row,h,hi=>Zof h.2 (by simpa using hi)
 |[],i,row,_,hi=>by simp at hi
theorem nF{r:Nat}:∀{l:List Nat},cv r l=true↔r∈l
 |[]=>by simp[cv]
 |x ::l=>by
  simp only[cv]
  cases hb:Nat.beq x r with
  |true=>have:=bE hb;subst this;simp
  |false=>
   have gm:¬r=x:=λe=>by rw[e]at hb;simp at hb
   simp[nF (l:=l),gm]
theorem LI:∀{l m:List Nat},pb l m=true↔ ∀r∈l,r∈m
 |[],m=>by simp[pb]
 |x::l,m=>by
  simp only[pb]
  cases hb:cv x m with
  |true=>simp[LI (l:=l),nF.1 hb]
  |false=>simp[show¬x∈m fromλe=>by rw[nF.2 e]at hb;cases hb]
theorem TU:∀{l m:List Nat},nB l m=true↔ ∀r∈l,¬r∈m
 |[],m=>by simp[nB]
 |x::l,m=>by
  simp only[nB]
  cases hb:cv x m with
  |true=>simp[nF.1 hb]
  |false=>simp[TU (l:=l),show¬x∈m fromλe=>by rw[nF.2 e]at hb;cases hb]
theorem LJ:∀{l:List Nat},Cv l=true↔l.Nodup
 |[]=>by simp[Cv]
 |x::l=>by
  simp only[Cv,List.nodup_cons]
  cases hb:cv x l with
  |true=>simp[nF.1 hb]
  |false=>simp[LJ (l:=l),show¬x∈l fromλe=>by rw[nF.2 e]at hb;cases hb]
theorem Zos{r:Nat}:∀{l:List Nat} {k:Nat},r∈l->∃j,pos r l k=k+j/\l[j]?=some r
 |x ::l,k,h=>by
  simp only[pos]
  cases hb:Nat.beq x r with
  |true=>exact⟨0,rfl,by simp[bE hb]⟩
  |false=>
   have gm:¬r=x:=λe=>by rw[e]at hb;simp at hb
   have hm:r∈l:=by simpa[gm]using h
   obtain⟨j,h1,h2⟩:=Zos (k:=k+1) hm
   exact⟨j+1,by show pos r l (k+1)=_;rw[h1];omega,by simpa using h2⟩
theorem AS{r:Nat}{l:List Nat}(h:r∈l):l[pos r l 0]?=some r:=by
 obtain⟨j,h1,h2⟩:=Zos (k:=0) h
 rw[h1,bG];exact h2
structure DF(S:Nat->Prop)(f:Nat->Nat)(du:Bool)(c1 c2:Ctx):Prop where
 row:∀i row,S i->c1.R i=some row->∃ao,c2.R (f i)=some ao/\ao.box=row.box/\ao.ty=row.ty/\ao.sz=row.sz/\ao.es.l.length=row.es.l.length/\c2.ρ (f i)=c1.ρ i/\(c2.V (f i)↔c1.V i)
 base:du=true->c2.base<=c1.base
 top:c1.top<=c2.top
theorem vS(hs:mM d)(h:fx I w d v):fx I' w d v:=by
 cases h<;>first|exact hs.elim|constructor
theorem Zc2{I I':ae}{w:World}:∀{cs:List D} {arr:Array Value} {off:Nat},(∀d∈cs,mM d)->oB I w cs arr off->oB I' w cs arr off
 |[],_,_,_,_=>by simp[Df,Dg]
 |d::cs,arr,off,hs,h=>by
  simp only[Df,Dg]at h⊢
  obtain⟨⟨v,hv,hp⟩,hr⟩:=h
  exact⟨⟨v,hv,vS (hs d (by simp)) hp⟩,Zc2 (λe he=>hs e (by simp[he])) hr⟩
theorem YO{I I':ae}{w:World}:∀{es:List (List D)} {arr:Array Value} {off sz:Nat},(∀e∈es,∀d∈e,mM d)->ij I w es arr off sz->ij I' w es arr off sz
 |[],_,_,_,_,_=>by simp[pR,pB]
 |e::es,arr,off,sz,hs,h=>by
  simp only[pR,pB]at h⊢
  exact⟨h.1,Zc2 (hs e (by simp)) h.2.1,YO (λf hf=>hs f (by simp[hf])) h.2.2⟩
theorem VRep.DT{c:Ctx}(h:dc c w d v):VRep c w d v:=by cases d<;>first|exact h|exact h.elim
theorem VRep.toC{c:Ctx}(hd:∀cs,d≠.agg cs)(h:VRep c w d v):dc c w d v:=by cases d<;>first|exact h|exact absurd rfl (hd _)
theorem Rep.JV{c:Ctx}(h:VRep c w d v):Rep c w d v:=by cases d<;>first|exact h|exact h.elim|trivial
theorem Rep.toV{c:Ctx}(hd:∀ds,d≠.dv ds)(h0:d≠.dead)(h:Rep c w d v):VRep c w d v:=by cases d<;>first|exact h|exact absurd rfl (hd _)|exact absurd rfl h0
theorem Z7g{f:Nat->Nat}{du:Bool}:∀{e:List D},(D.mi f du e).length=e.length
 |[]=>rfl
 |d::l=>by simp[D.mi,Z7g (e:=l)]
section
variable {S:Nat->Prop} {f:Nat->Nat} {du:Bool} {c1 c2:Ctx} {w:World} (hn:DF S f du c1 c2) {flat:Prop} (hI:(∀b,c1.I b->c2.I b)\/(flat/\∀b,c1.I b->c1.base<=b->c2.I b))
include hn hI
theorem Zjz(gm:∀f cs,d≠.gj f cs)(hS:∀r∈nA d,S r)(jn:flat->PB d)(h:dc c1 w d v):dc c2 w (d.mh f du) v:=by
 cases d with
 |sl sz es fr=>
  obtain⟨a,cap,hv,hc,gx⟩:=h
  refine⟨a,cap,hv,hc,?_⟩
  rcases gx with gx|⟨b,off,arr,ty,fz,ha,ib,hf,hh,hE⟩
  ·exact .inl gx
  ·have hb:(fr&&du)=true->c2.base<=b:=λe=>by
    simp only[aE]at e
    exact Nat.le_trans (hn.base e.2) (hf e.1)
   rcases hI with hi|⟨ES,hi⟩
   ·exact .inr ⟨b,off,arr,ty,fz,ha,hi b ib,hb,hh,ng (λb hb=>⟨hi b hb,rfl⟩) _ _ _ _ hE⟩
   ·obtain⟨h1,h2⟩:=jn ES
    rcases h1 with h1|h1
    ·exact .inl (ai.nX.1 h1)
    ·exact .inr ⟨b,off,arr,ty,fz,ha,hi b ib (hf h1),hb,hh,YO (ai.Cu h2) hE⟩
 |all r=>
  obtain⟨row,hr,hb,h⟩:=h
  obtain⟨ao,g1,g2,g3,g4,g5,g6,gV⟩:=hn.row r row (hS r (by simp[nA])) hr
  refine⟨ao,g1,g2.trans hb,?_⟩
  rcases h with⟨hV,hv⟩|⟨hV,cap,arr,hv,h1,h2,h3,h4⟩
  ·obtain⟨a,hv,ho⟩:=hv;exact .inl ⟨gV.2 hV,a,hv,ho.mono hn.top⟩
  ·exact .inr ⟨λe=>hV (gV.1 e),cap,arr,by rw[hv,g5,g6],by rw[g5];exact h1,h2,by rw[g6,g3];exact h3,by rw[g4];exact h4⟩
 |own r o n=>
  obtain⟨row,hr,hb,ho,h⟩:=h
  obtain⟨ao,g1,g2,g3,g4,g5,g6,gV⟩:=hn.row r row (hS r (by simp[nA])) hr
  refine⟨ao,g1,g2.trans hb,by rw[g5];exact ho,?_⟩
  rcases h with⟨h0,a,hv,jh⟩|⟨hV,cap,arr,h1,h2,h3,h4,h5⟩
  ·exact .inl ⟨h0,a,hv,jh.mono hn.top gV g6⟩
  ·exact .inr ⟨λe=>hV (gV.1 e),cap,arr,h1,h2,by rw[g6,g3];exact h3,by rw[g4,g6];exact h4,by rw[g4];exact h5⟩
 |ptr r i off=>
  obtain⟨row,hr,hV,hi,hv⟩:=h
  obtain⟨ao,g1,g2,g3,g4,g5,g6,gV⟩:=hn.row r row (hS r (by simp[nA])) hr
  exact⟨ao,g1,λe=>hV (gV.1 e),by rw[g5];exact hi,by rw[hv,g6,g4]⟩
 |pa r i off len k n=>
  obtain⟨bg,row,hr,hV,hi,hv⟩:=h
  obtain⟨ao,g1,g2,g3,g4,g5,g6,gV⟩:=hn.row r row (hS r (by simp[nA])) hr
  exact⟨bg,ao,g1,λe=>hV (gV.1 e),by rw[g5];exact hi,by rw[hv,g6,g4]⟩
 |im sz es i off=>
  obtain⟨b,o,arr,ty,fz,hv,ib,iA,hh,hE⟩:=h
  rcases hI with hi|⟨ES,hi⟩
  ·exact⟨b,o,arr,ty,fz,hv,hi b ib,iA,hh,ng (λb hb=>⟨hi b hb,rfl⟩) _ _ _ _ hE⟩
  ·exact(jn ES).elim
 |ga r=>
  rcases h with h|⟨row,hr,hV,hi,hv⟩
  ·exact .inl h
  ·obtain⟨ao,g1,g2,g3,g4,g5,g6,gV⟩:=hn.row r row (hS r (by simp[nA])) hr
   exact .inr ⟨ao,g1,λe=>hV (gV.1 e),by rw[g5];exact hi,by rw[hv,g6,g4]⟩
 |gj f cs=>exact absurd rfl (gm f cs)
 |emp=>obtain⟨a,hv,ho⟩:=h;exact⟨a,hv,ho.mono hn.top⟩
 |_=>exact h
theorem YP(hS:∀r∈nA d,S r)(jn:flat->PB d)(h:dc c1 w d v):dc c2 w (d.mh f du) v:=by
 by_cases e:∃g cs,d=.gj g cs
 ·obtain⟨g,cs,rfl⟩:=e
  obtain⟨us,hv,hu⟩:=h
  have hi:∀b,c1.I b->c2.I b/\w.heap[b]?=w.heap[b]? :=by
   rcases hI with hi|⟨ES,_⟩
   ·exactλb hb=>⟨hi b hb,rfl⟩
   ·exact(jn ES).elim
  exact⟨us,LO hi hv,Yz (Fk:=λ_=>True) (λd v h1 h2 h3=>Zjz hn (flat:=False) (.inl λb hb=>(hi b hb).1) h1 h2 (λe=>e.elim) h3) (λ_ _ _ _=>LO hi) (λ_ _ _=>trivial) hS hu⟩
 ·exact Zjz hn hI (λf cs e'=>e ⟨f,cs,e'⟩) hS jn h
theorem Zqc:∀{ds:List D} {vs:List Value},(∀r∈pI ds,S r)->(flat->LS ds)->je c1 w ds vs->je c2 w (D.mi f du ds) vs
 |[],[],_,_,_=>trivial
 |d::ds,v::vs,hS,jn,h=>⟨YP hn hI (λr hr=>hS r (by simp[pI,hr])) (λe=>(jn e).1) h.1,Zqc (λr hr=>hS r (by simp[pI,hr])) (λe=>(jn e).2) h.2⟩
 |[],_::_,_,_,h=>h.elim
 |_::_,[],_,_,h=>h.elim
theorem PC(hS:∀r∈Zf d,S r)(jn:flat->Up d)(h:VRep c1 w d v):VRep c2 w (d.jb f du) v:=by
 cases d with
 |agg cs=>obtain⟨vs,hv,hr⟩:=h;exact⟨vs,hv,Zqc hn hI hS jn hr⟩
 |dv ds=>exact h.elim
 |_=>
  refine VRep.DT (YP hn hI ?_ ?_ (VRep.toC ?_ h))
  ·exact hS
  ·exact jn
  ·intro cs e;cases e
theorem Zqi:∀{ds:List D} {vs:List Value},(∀d∈ds,∀r∈Zf d,S r)->(flat->ER ds)->j5 c1 w ds vs->j5 c2 w (D.Ai f du ds) vs
 |[],[],_,_,_=>trivial
 |d::ds,v::vs,hS,jn,h=>⟨PC hn hI (hS d (by simp)) (λe=>(jn e).1) h.1,Zqi (λd hd=>hS d (by simp[hd])) (λe=>(jn e).2) h.2⟩
 |[],_::_,_,_,h=>h.elim
 |_::_,[],_,_,h=>h.elim
theorem Yr(hS:∀r,S r)(jn:flat->FF d)(h:Rep c1 w d v):Rep c2 w (d.sD f du) v:=by
 cases d with
 |dv ds=>obtain⟨vs,hv,hr⟩:=h;exact⟨vs,hv,Zqi hn hI (λ_ _ r _=>hS r) jn hr⟩
 |agg cs=>exact PC hn hI (d:=.agg cs) (λr _=>hS r) jn h
 |dead=>trivial
 |_=>
  have h':=Rep.toV (λds e=>by cases e) (λe=>by cases e) h
  have h2:=PC hn hI (λr _=>hS r) (λe=>by have:=jn e;exact this) h'
  exact Rep.JV h2
theorem Uq:∀{ds:List D} {arr:Array Value} {off:Nat},(∀r∈pI ds,S r)->(flat->LS ds)->ku c1 w ds arr off->ku c2 w (D.mi f du ds) arr off
 |[],_,_,_,_,_=>trivial
 |d::ds,arr,off,hS,jn,⟨⟨v,hv,h1⟩,h2⟩=>⟨⟨v,hv,YP hn hI (λr hr=>hS r (by simp[pI,hr])) (λe=>(jn e).1) h1⟩,Uq (λr hr=>hS r (by simp[pI,hr])) (λe=>(jn e).2) h2⟩
theorem Yp{i j:Nat}(Pt:c2.ρ j=c1.ρ i)(hV:c2.V j↔c1.V i)(hS:row.box=true->∀e,row.es=.gen [e]->∀r∈pI e,S r)(jn:flat->I1 row)(h:DW c1 w i row):DW c2 w j (row.jb f du):=by
 have sh:(row.jb f du).box=row.box/\(row.jb f du).ty=row.ty/\(row.jb f du).sz=row.sz:=by
  unfold Row.jb;split<;>exact⟨rfl,rfl,rfl⟩
 rcases h with⟨h0,h1,h2,h3⟩|⟨h0,arr,ha,hs,hx⟩
 ·refine .inl ⟨hV.2 h0,?_⟩
  unfold Row.jb
  split
  ·simp at h1
  ·exact⟨h1,h2,h3⟩
 ·refine .inr ⟨λe=>h0 (hV.1 e),arr,by rw[Pt,sh.2.1];exact ha,by rw[sh.2.2];exact hs,?_⟩
  rw[sh.1,sh.2.2]
  split
  ·rename_i hb
   simp only[hb,if_true]at hx
   obtain⟨e,k1,k2,k3,k4⟩:=hx
   obtain⟨box,ty,sz,es⟩:=row
   simp only at hb k1 k2 k3 k4
   subst hb;subst k1
   refine⟨D.mi f du e,rfl,?_,k3,Uq hn hI (hS rfl e rfl) (λe'=>?_) k4⟩
   ·rw[Z7g];exact k2
   ·have:=jn e'
    simp only[I1,if_true]at this
    exact this e (by simp[ai.l])
  ·rename_i hb
   simp only[hb,aA,if_false]at hx
   have he:(row.jb f du).es=row.es:=by
    unfold Row.jb
    split
    ·simp at hb
    ·rfl
   rw[he]
   rcases hI with hi|⟨ES,hi⟩
   ·exact ng (λb hb=>⟨hi b hb,rfl⟩) _ _ _ _ hx
   ·have:=jn ES
    simp only[I1,hb,aA,if_false]at this
    exact YO (ai.Cu this) hx
end
def Ctx.pass(c:Ctx)(w:World)(ids:List Nat)(rows:List Row)(len:Bool):Ctx:=
 { ρ:=λi=>match ids[i]? with|some r=>c.ρ r|none=>0,R:=λi=>rows[i]?,V:=λi=>match ids[i]? with|some r=>c.V r|none=>False,
   I:=λb=>c.I b\/(len=true/\ ∃r row,c.R r=some row/\ ¬c.V r/\row.box=false/\r∉ids/\c.ρ r=b),base:=w.heap.size,top:=c.top,X:=λ_=>False}
section
variable {c:Ctx} {w:World} {R:Rows} {ids:List Nat} {dy:List Row} {len:Bool}
theorem Zq9(hm:Mem c w)(hA:lU c R)(h:EL R d=some d')(hl:nA d≠[]->len=true)(hd:∀r∈nA d,r∉ids)(hr:dc c w d v):dc (c.pass w ids dy len) w d' v:=by
 have nn:∀b,c.I b->(c.pass w ids dy len).I b/\w.heap[b]?=w.heap[b]? :=λb hb=>⟨.inl hb,rfl⟩
 cases d<;>simp only[EL]at h<;>try(cases h;done)
 case bool b=>cases h;exact hr
 case int k n=>cases h;exact hr
 case str s=>cases h;exact hr
 case iC=>cases h;exact hr
 case jC=>cases h;exact hr
 case c9=>cases h;exact⟨none,0,hr,aX _,.inl rfl⟩
 case emp=>cases h;obtain⟨a,hv,_⟩:=hr;exact⟨a,0,hv,aX _,.inl rfl⟩
 case sl sz es fr=>
  cases h
  obtain⟨a,cap,hv,hc,gx⟩:=hr
  refine⟨a,cap,hv,hc,?_⟩
  rcases gx with gx|⟨b,off,arr,ty,fz,ha,hI,hf,hh,hE⟩
  ·exact .inl gx
  ·exact .inr ⟨b,off,arr,ty,fz,ha,.inl hI,by simp,hh,ng nn _ _ _ _ hE⟩
 case all r=>
  split at h
  ·rename_i row hR
   split at h
   ·rename_i hb
    cases h
    obtain⟨ao,g1,g2,hv⟩:=hr
    have:=hA r ao _ g1 hR
    subst this
    rcases hv with⟨hV,a,hv,_⟩|⟨hV,cap,arr,hv,g3,g4,g5,g6⟩
    ·have he:=(hm.nd g1 hV).2.1
     exact⟨a,0,by rw[he];exact hv,by rw[he];exact aX _,.inl he⟩
    refine⟨_,cap,hv,g3,?_⟩
    obtain⟨iE,ju,hs,hx⟩:=hm.real g1 hV
    rw[g5]at ju;cases ju
    simp only[hb,aA,if_false]at hx
    exact .inr ⟨_,0,arr,_,_,rfl,.inr ⟨hl (by simp[nA]),r,_,g1,hV,hb,hd r (by simp[nA]),rfl⟩,by simp,g5,ng nn _ _ _ _ hx⟩
   ·cases h
  ·cases h
 case own r o n=>
  split at h
  ·rename_i row hR
   split at h
   ·rename_i hb
    cases h
    obtain⟨ao,g1,g2,g5,hv⟩:=hr
    have:=hA r ao _ g1 hR
    subst this
    have hlen:((ao.es.drop o).take n).l.length=n:=by rw[ai.iU,ai.j8];simp only[List.length_take,List.length_drop];omega
    rcases hv with⟨g7,a,hv,_⟩|⟨hV,cap,arr,g3,g4,g6,hv,g7⟩
    ·subst g7
     exact⟨a,0,by rw[hlen];exact hv,by omega,.inl (by rw[ai.iU];simp)⟩
    obtain⟨iE,ju,hs,hx⟩:=hm.real g1 hV
    rw[g6]at ju;cases ju
    simp only[hb,aA,if_false]at hx
    refine⟨_,cap,by rw[hlen];exact hv,by omega,.inr ⟨_,o*ao.sz,arr,_,_,rfl,.inr ⟨hl (by simp[nA]),r,_,g1,hV,hb,hd r (by simp[nA]),rfl⟩,by simp,g6,ng nn _ _ _ _ ?_⟩⟩
    have:=LD (n:=n) (JQ (l:=o) hx)
    rw[ai.iU,ai.j8]
    simpa using this
   ·cases h
  ·cases h
theorem Zog(hm:Mem c w)(hA:lU c R):∀{ds nV:List D} {vs:List Value},IW R ds=some nV->(pI ds≠[]->len=true)->(∀r∈pI ds,r∉ids)->je c w ds vs->je (c.pass w ids dy len) w nV vs
 |[],nV,[],h,_,_,_=>by simp[IW]at h;subst h;trivial
 |[],_,_::_,_,_,_,hr=>hr.elim
 |_::_,_,[],_,_,_,hr=>hr.elim
 |d ::ds,nV,v::vs,h,hl,hd,hr=>by
  simp only[IW]at h
  split at h
  ·rename_i x xs h1 h2
   cases h
   exact⟨Zq9 hm hA h1 (λe=>hl (by simp[pI,e])) (λr e=>hd r (by simp[pI,e])) hr.1,Zog hm hA h2 (λe=>hl (by simp[pI,e])) (λr e=>hd r (by simp[pI,e])) hr.2⟩
  ·cases h
theorem Zpv(hm:Mem c w)(hA:lU c R)(h:conv R d=some d')(hl:Zf d≠[]->len=true)(hd:∀r∈Zf d,r∉ids)(hr:Rep c w d v):VRep (c.pass w ids dy len) w d' v:=by
 cases d with
 |agg cs=>
  simp only[conv,Option.map_eq_some_iff]at h
  obtain⟨rp,h1,rfl⟩:=h
  obtain⟨vs,hv,hx⟩:=hr
  exact⟨vs,hv,Zog hm hA h1 hl hd hx⟩
 |dv ds=>simp[conv,EL]at h
 |dead=>simp[conv,EL]at h
 |_=>
  simp only[conv]at h
  simp only[Rep,VRep]at hr
  exact VRep.DT (Zq9 hm hA h hl hd hr)
theorem EK{f:Nat->Nat}:∀{ids:List Nat} {rows:List Row},AR R f ids=some rows->rows.length=ids.length/\∀(i r:Nat),ids[i]?=some r->∃row,R.getD r none=some row/\rows[i]?=some (row.jb f false)
 |[],rows,h=>by simp[AR]at h;subst h;exact⟨rfl,λi r h=>by simp at h⟩
 |r ::l,rows,h=>by
  simp only[AR]at h
  split at h
  ·rename_i row rs h1 h2
   cases h
   obtain⟨g1,g2⟩:=EK h2
   refine⟨by simp[g1],λi q hq=>?_⟩
   cases i with
   |zero=>simp at hq;subst hq;exact⟨row,h1,rfl⟩
   |succ i=>exact g2 i q (by simpa using hq)
  ·cases h
theorem IU(f:Nat->Nat)(du:Bool)(row:Row):(row.jb f du).box=row.box/\(row.jb f du).ty=row.ty/\(row.jb f du).sz=row.sz/\(row.jb f du).es.l.length=row.es.l.length:=by
 unfold Row.jb;split<;>exact⟨rfl,rfl,rfl,rfl⟩
theorem Z7y{r:Nat}:∀{l:List Nat},r∈Cn R l↔ ∃q∈l,∃ty sz e,R.getD q none=some ⟨true,ty,sz,.gen [e]⟩/\r∈pI e
 |[]=>by simp[Cn]
 |q ::l=>by
  simp only[Cn,List.mem_append,Z7y (l:=l),cQ]
  constructor
  ·rintro(h|⟨q',h1,h2⟩)
   ·split at h
    ·rename_i ty sz e he
     exact⟨q,.inl rfl,ty,sz,e,he,h⟩
    ·simp at h
   ·exact⟨q',.inr h1,h2⟩
  ·rintro⟨q',h1|h1,ty,sz,e,h2,h3⟩
   ·subst h1
    left
    rw[h2];exact h3
   ·exact .inr ⟨q',h1,ty,sz,e,h2,h3⟩
theorem T0(hR:∀r row,r∈ids->R.getD r none=some row->c.R r=some row)(db:AR R (λr=>pos r ids 0) ids=some dy):DF (λr=>r∈ids) (λr=>pos r ids 0) false c (c.pass w ids dy len):=by
 obtain⟨hl,hg⟩:=EK db
 refine⟨λr row hr c6=>?_,(λh=>by cases h),aX _⟩
 have hp:=AS hr
 obtain⟨jB,h1,h2⟩:=hg _ r hp
 have:row=jB:=by have:=hR r jB hr h1;rw[c6]at this;exact Option.some.inj this
 subst this
 obtain⟨s1,s2,s3,s4⟩:=IU (λr=>pos r ids 0) false row
 exact⟨_,h2,s1,s2,s3,s4,by simp[Ctx.pass,hp],by simp[Ctx.pass,hp]⟩
theorem Yq(hm:Mem c w)(hR:∀r row,r∈ids->R.getD r none=some row->c.R r=some row)(kJ:ids.Nodup)(jg:∀r∈Cn R ids,r∈ids)(db:AR R (λr=>pos r ids 0) ids=some dy):Mem (c.pass w ids dy len) w:=by
 have hn:=T0 (len:=len) (w:=w) hR db
 obtain⟨hl,hg⟩:=EK db
 have inv:∀i x,(c.pass w ids dy len).R i=some x->∃r row,ids[i]?=some r/\c.R r=some row/\R.getD r none=some row/\x=row.jb (λr=>pos r ids 0) false/\(c.pass w ids dy len).ρ i=c.ρ r/\((c.pass w ids dy len).V i↔c.V r):=by
  intro i x hx
  have jD:dy[i]?=some x:=hx
  have bg:=(List.getElem?_eq_some_iff.1 jD).1
  have hi:ids[i]?=some ids[i]:=aI (by omega)
  obtain⟨row,h1,h2⟩:=hg i _ hi
  rw[jD]at h2
  exact⟨_,row,hi,hR _ row (fL hi) h1,h1,Option.some.inj h2,by simp[Ctx.pass,hi],by simp[Ctx.pass,hi]⟩
 refine⟨λi x hx=>?_,λi j x y hx hy v1 v2 he=>?_,λb hb=>?_,hm.top,hm.jQ.mono λb hb=>⟨.inl hb,rfl⟩⟩
 ·obtain⟨r,row,g1,g2,g3,rfl,g5,g6⟩:=inv i x hx
  refine Yp hn (flat:=False) (.inl λb hb=>.inl hb) g5 g6 (λET e he q hq=>?_) (λe=>e.elim) (hm.row r row g2)
  obtain⟨box,ty,sz,es⟩:=row
  simp only at ET he
  subst ET
  have h1:∃e0,es=.gen [e0]:=by
   rcases hm.row r _ g2 with⟨_,hh,_⟩|⟨_,arr,_,_,hx⟩
   ·cases hh
   ·simp only[if_true]at hx;obtain⟨e0,h,_⟩:=hx;exact⟨e0,h⟩
  obtain⟨e0,rfl⟩:=h1
  cases he
  exact jg q (Z7y.2 ⟨r,fL g1,ty,sz,e,g3,hq⟩)
 ·obtain⟨r,row,g1,g2,g3,_,g5,g6⟩:=inv i x hx
  obtain⟨s,ao,k1,k2,k3,_,k5,k6⟩:=inv j y hy
  rw[g5,k5]at he
  have:r=s:=hm.inj r s _ _ g2 k2 (λe=>v1 (g6.2 e)) (λe=>v2 (k6.2 e)) he
  subst this
  exact(List.getElem?_inj (List.getElem?_eq_some_iff.1 g1).1 kJ).1 (g1.trans k1.symm)
 ·rcases hb with hb|⟨_,r,row,hr,hV,wj,HU,rfl⟩
  ·refine⟨(hm.fe b hb).1,λi x hx v=>?_⟩
   obtain⟨r,row,g1,g2,g3,_,g5,g6⟩:=inv i x hx
   rw[g5];exact(hm.fe b hb).2 r row g2 (λe=>v (g6.2 e))
  ·refine⟨hm.lt hr hV,λi x hx v=>?_⟩
   obtain⟨s,ao,g1,g2,g3,_,g5,g6⟩:=inv i x hx
   rw[g5]
   intro e
   have:=hm.inj s r _ _ g2 hr (λe=>v (g6.2 e)) hV e
   subst this
   exact HU (fL g1)
theorem LK(hm:Mem c w)(hA:lU c R)(hn:DF (λr=>r∈ids) (λr=>pos r ids 0) false c (c.pass w ids dy len)){ρ:Operand->Value}{ev:Operand->D}:
 ∀{bs:List Bool} {xs:List Operand} {nV:List D},sx R (λr=>pos r ids 0) bs (xs.map ev)=some nV->(ly bs (xs.map ev)≠[]->len=true)->(∀r∈ly bs (xs.map ev),r∉ids)->(∀r∈Cw bs (xs.map ev),r∈ids)->(∀x∈xs,Rep c w (ev x) (ρ x))->j5 (c.pass w ids dy len) w nV (xs.map ρ)
 |bs,[],nV,h,_,_,_,_=>by cases bs<;>(try(rename_i b bs;cases b))<;>(simp[sx]at h;subst h;trivial)
 |true::bs,x::xs,nV,h,hl,hd,hi,hr=>by
  simp only[fG,sx]at h
  simp only[fG,ly,Cw]at hl hd hi
  split at h
  ·rename_i ys hv h2
   cases h
   have hx:VRep c w (ev x) (ρ x):=Rep.toV (λds e=>by rw[e]at hv;simp[D.isVal]at hv) (λe=>by rw[e]at hv;simp[D.isVal]at hv) (hr x (by simp))
   exact⟨PC hn (flat:=False) (.inl λb hb=>.inl hb) (λr e=>hi r (by simp[e])) (λe=>e.elim) hx,LK hm hA hn h2 hl hd (λr e=>hi r (by simp[e])) λy hy=>hr y (by simp[hy])⟩
  ·cases h
 |false::bs,x::xs,nV,h,hl,hd,hi,hr=>by
  simp only[fG,sx]at h
  simp only[fG,ly,Cw]at hl hd hi
  split at h
  ·rename_i y ys h1 h2
   cases h
   exact⟨Zpv hm hA h1 (λe=>hl (by simp[e])) (λr e=>hd r (by simp[e])) (hr x (by simp)),LK hm hA hn h2 (λe=>hl (by simp[e])) (λr e=>hd r (by simp[e])) hi λy hy=>hr y (by simp[hy])⟩
  ·cases h
 |[],x::xs,nV,h,hl,hd,hi,hr=>by
  simp only[fG,sx]at h
  simp only[fG,ly,Cw]at hl hd hi
  split at h
  ·rename_i y ys h1 h2
   cases h
   refine⟨Zpv hm hA h1 (λe=>hl (by simp[e])) (λr e=>hd r (by simp[e])) (hr x (by simp)),LK hm hA hn h2 (λe=>hl (by simp[e])) (λr e=>hd r (by simp[e])) (λr e=>?_) λy hy=>hr y (by simp[hy])⟩
   cases xs<;>simp[Cw]at e
  ·cases h
end
theorem Ur{f:Nat->Nat}:∀{ids:List Nat} {rows:List Row} {R:Rows},ids.Nodup->ids.length<=rows.length->(∀r∈ids,r<R.length)->
 (tz f ids rows R).length=R.length/\(∀(i r:Nat),ids[i]?=some r->∃row,rows[i]?=some row/\(tz f ids rows R).getD r none=some (row.jb f true))/\∀r,r∉ids->(tz f ids rows R).getD r none=R.getD r none
 |[],rows,R,_,_,_=>by
  have:tz f [] rows R=R:=by cases rows<;>rfl
  rw[this]
  exact⟨rfl,λi r h=>by simp at h,λ_ _=>rfl⟩
 |r::ids,[],R,_,hl,_=>by simp at hl
 |r ::ids,row::rows,R,kJ,hl,bg=>by
  obtain⟨HU,IT⟩:=List.nodup_cons.1 kJ
  obtain⟨g1,g2,g3⟩:=Ur (f:=f) (ids:=ids) (rows:=rows) (R:=R.set r (some (row.jb f true))) IT (by simpa using hl) (λq hq=>by simpa using bg q (by simp[hq]))
  have hr:=bg r (by simp)
  have Yl:(R.set r (some (row.jb f true))).getD r none=some (row.jb f true):=by simp[aV,hr]
  have gm:∀q,q≠r->(R.set r (some (row.jb f true))).getD q none=R.getD q none:=λq hq=>by simp[aV,List.getElem?_set_ne (Ne.symm hq)]
  simp only[tz]
  refine⟨by simpa using g1,λi q hq=>?_,λq hq=>?_⟩
  ·cases i with
   |zero=>
    simp at hq;subst hq
    exact⟨row,rfl,by rw[g3 _ HU];exact Yl⟩
   |succ i=>simpa using g2 i q (by simpa using hq)
  ·have h1:q≠r:=λe=>hq (by simp[e])
   rw[g3 q (λe=>hq (by simp[e])),gm q h1]
def Ctx.behind(c:Ctx)(w:World)(c':Ctx)(ids:List Nat)(n0:Nat)(R2:Rows):Ctx:=
 { ρ:=λr=>if n0<=r/\r<R2.length then c'.ρ (ids.length+(r-n0)) else c.ρ r,
   R:=λr=>if r∈ids\/(n0<=r/\r<R2.length) then R2.getD r none else c.R r,
   V:=λr=>if n0<=r/\r<R2.length then c'.V (ids.length+(r-n0)) else c.V r,
   I:=λb=>c.I b\/(c'.I b/\w.heap.size<=b),base:=c.base,top:=c'.top,X:=c.X}
theorem Zm7{f:Nat->Nat}{rows:List Row}:(AV f rows)[i]?=rows[i]?.map λrow=>some (row.jb f true):=by simp[AV]
theorem YQ{c c':Ctx}{R:Rows}{ids:List Nat}{dy aj:List Row}{len:Bool}(hm:Mem c w)(hb:c.base<=w.heap.size)(nI:∀r row,r∈ids->R.getD r none=some row->c.R r=some row)(e6:∀r,R.length<=r->r<R.length+(aj.length-ids.length)->c.R r=none)
 (kJ:ids.Nodup) (db:AR R (λr=>pos r ids 0) ids=some dy) (hle:ids.length<=aj.length) (hx:lB (c.pass w ids dy len) w c' w') (jV:∀i,c'.R i=aj[i]?)
 (hI:len=true->re aj) {R2:Rows} (um:R2=tz (bk ids R.length) ids aj R++AV (bk ids R.length) (aj.drop ids.length)):
 (DF (λ_=>True) (bk ids R.length) true c' (c.behind w c' ids R.length R2))/\((∀b,c'.I b->(c.behind w c' ids R.length R2).I b)\/(len=true/\∀b,c'.I b->c'.base<=b->(c.behind w c' ids R.length R2).I b))/\
 Mem (c.behind w c' ids R.length R2) w'/\iX c w (c.behind w c' ids R.length R2) w'/\Fr (λb=>∃r x,c.R r=some x/\¬c.V r/\r∈ids/\c.ρ r=b) w w'/\
 (∀b,(c.behind w c' ids R.length R2).I b->c.I b\/w.heap.size<=b)/\
 (∀r,R.length<=r->r<R2.length->¬(c.behind w c' ids R.length R2).V r->w.heap.size<=(c.behind w c' ids R.length R2).ρ r):=by
 obtain⟨jg,Ac⟩:=EK db
 have bg:∀r∈ids,r<R.length:=λr hr=>by
  obtain⟨row,h1,_⟩:=Ac _ r (AS hr)
  by_cases hl:r<R.length
  ·exact hl
  ·rw[aV,aJ (by omega)]at h1;cases h1
 obtain⟨k1,k2,k3⟩:=Ur (f:=bk ids R.length) kJ hle bg
 have uQ:R2.length=R.length+(aj.length-ids.length):=by rw[um];simp[k1,AV]
 have Po:∀r,r<R.length->R2.getD r none=(tz (bk ids R.length) ids aj R).getD r none:=λr hr=>by
  rw[um,aV,aV,bI (by omega)]
 have Yo:∀i,ids.length<=i->i<aj.length->R2.getD (R.length+(i-ids.length)) none=aj[i]?.map λrow=>row.jb (bk ids R.length) true:=λi h1 h2=>by
  rw[um,aV,List.getElem?_append_right (by omega),Zm7,k1,show R.length+(i-ids.length)-R.length=i-ids.length by omega,fI,show ids.length+(i-ids.length)=i by omega]
  rw[aI h2];rfl
 have jc:c'.base=w.heap.size:=hx.cz.base
 have jv:∀i r ao,ids[i]?=some r->c'.R i=some ao->∃row,c.R r=some row/\ao.box=row.box/\ao.ty=row.ty/\ao.sz=row.sz/\ao.es.l.length=row.es.l.length/\c'.ρ i=c.ρ r/\(c'.V i↔c.V r)/\r<R.length/\R2.getD r none=some (ao.jb (bk ids R.length) true)/\bk ids R.length i=r/\
  (¬c.V r->∀arr,w.heap[c.ρ r]?=some (.cells arr row.ty (0,0))->∃iE,w'.heap[c.ρ r]?=some (.cells iE row.ty (0,0))/\iE.size=arr.size):=by
  intro i r ao hi jd
  obtain⟨row,h1,h2⟩:=Ac i r hi
  have lY:=fL hi
  have h3:=nI r row lY h1
  obtain⟨ss,g1,g2,g3,g4,g5,g6,gV,g7⟩:=hx.cz.R i _ (show(c.pass w ids dy len).R i=some _ from h2)
  rw[jd]at g1;cases g1
  obtain⟨s1,s2,s3,s4⟩:=IU (λr=>pos r ids 0) false row
  obtain⟨kG,q1,q2⟩:=k2 i r hi
  rw[jV,q1]at jd;cases jd
  refine⟨row,h3,g2.trans s1,g3.trans s2,g4.trans s3,g5.trans s4,by simpa[Ctx.pass,hi]using g6,by simpa[Ctx.pass,hi]using gV,bg r lY,by rw[Po r (bg r lY)];exact q2,by simp[bk,hi],λnv arr ha=>?_⟩
  have:=g7 (by simpa[Ctx.pass,hi]using nv) arr (by simpa[Ctx.pass,hi,s2]using ha)
  simpa[Ctx.pass,hi,s2]using this
 have fresh:∀i ao,ids.length<=i->c'.R i=some ao->i<aj.length/\R2.getD (R.length+(i-ids.length)) none=some (ao.jb (bk ids R.length) true)/\bk ids R.length i=R.length+(i-ids.length)/\(¬c'.V i->w.heap.size<=c'.ρ i):=by
  intro i ao hi jd
  have h1:aj[i]?=some ao:=by rw[<-jV];exact jd
  have h2:=(List.getElem?_eq_some_iff.1 h1).1
  refine⟨h2,by rw[Yo i hi h2,h1];rfl,by simp[bk,aJ hi],λnv=>?_⟩
  rcases hx.nT i ao jd nv with⟨⟨x,oQ⟩,_⟩|h3
  ·have:dy[i]?=some x:=oQ
   rw[aJ (by omega)]at this;cases this
  ·exact h3
 have Cl:DF (λ_=>True) (bk ids R.length) true c' (c.behind w c' ids R.length R2):=by
  refine⟨λi ao _ jd=>?_,λ_=>by rw[jc];exact hb,aX _⟩
  obtain⟨s1,s2,s3,s4⟩:=IU (bk ids R.length) true ao
  by_cases hi:i<ids.length
  ·have iA:ids[i]?=some ids[i]:=aI hi
   obtain⟨row,g1,g2,g3,g4,g5,g6,g7,g8,g9,g10,_⟩:=jv i _ ao iA jd
   rw[g10]
   exact⟨_,by simp only[Ctx.behind];rw[if_pos (.inl (fL iA))];exact g9,s1,s2,s3,s4,by simp only[Ctx.behind];rw[if_neg (by omega),g6],by simp only[Ctx.behind];rw[if_neg (by omega)];exact g7.symm⟩
  ·obtain⟨h1,h2,h3,h4⟩:=fresh i ao (by omega) jd
   rw[h3]
   have hc:R.length<=R.length+(i-ids.length)/\R.length+(i-ids.length)<R2.length:=by omega
   have he:ids.length+(R.length+(i-ids.length)-R.length)=i:=by omega
   exact⟨_,by simp only[Ctx.behind];rw[if_pos (.inr hc)];exact h2,s1,s2,s3,s4,by simp only[Ctx.behind];rw[if_pos hc,he],by simp only[Ctx.behind];rw[if_pos hc,he]⟩
 have Cx:(∀b,c'.I b->(c.behind w c' ids R.length R2).I b)\/(len=true/\∀b,c'.I b->c'.base<=b->(c.behind w c' ids R.length R2).I b):=by
  cases hl:len with
  |false=>
   refine .inl λb ib=>?_
   rcases hx.fe b ib with h1|h1
   ·rcases h1 with h1|⟨h1,_⟩
    ·exact .inl h1
    ·rw[hl]at h1;cases h1
   ·exact .inr ⟨ib,h1⟩
  |true=>exact .inr ⟨rfl,λb ib hbb=>.inr ⟨ib,by omega⟩⟩
 have Bz:Fr (λb=>∃r x,c.R r=some x/\¬c.V r/\r∈ids/\c.ρ r=b) w w':=hx.fr.mono λb _ ⟨i,x,h1,h2,h3⟩=>by
  have rK:dy[i]?=some x:=h1
  have hi:i<ids.length:=by have:=(List.getElem?_eq_some_iff.1 rK).1;omega
  have iA:ids[i]?=some ids[i]:=aI hi
  obtain⟨row,g1,g2⟩:=Ac i _ iA
  exact⟨_,row,nI _ row (fL iA) g1,by simpa[Ctx.pass,iA]using h2,fL iA,by simpa[Ctx.pass,iA]using h3⟩
 have inv:∀r x,(c.behind w c' ids R.length R2).R r=some x->(∃i ao,c'.R i=some ao/\x=ao.jb (bk ids R.length) true/\(c.behind w c' ids R.length R2).ρ r=c'.ρ i/\((c.behind w c' ids R.length R2).V r↔c'.V i)/\(r∈ids/\ids[i]?=some r/\(c.behind w c' ids R.length R2).ρ r=c.ρ r/\((c.behind w c' ids R.length R2).V r↔c.V r)\/R.length<=r/\ids.length<=i/\r=R.length+(i-ids.length)))\/
  (c.R r=some x/\r∉ids/\(c.behind w c' ids R.length R2).ρ r=c.ρ r/\((c.behind w c' ids R.length R2).V r↔c.V r)/\¬(R.length<=r/\r<R2.length)):=by
  intro r x jD
  by_cases lY:r∈ids
  ·left
   have hp:=AS lY
   obtain⟨kG,q1,q2⟩:=k2 _ r hp
   have su:c'.R (pos r ids 0)=some kG:=by rw[jV];exact q1
   obtain⟨row,g1,g2,g3,g4,g5,g6,g7,g8,g9,g10,_⟩:=jv _ r kG hp su
   simp only[Ctx.behind]at jD
   rw[if_pos (.inl lY),g9]at jD
   cases jD
   have e1:(c.behind w c' ids R.length R2).ρ r=c.ρ r:=by simp only[Ctx.behind];rw[if_neg (by omega)]
   have e2:(c.behind w c' ids R.length R2).V r↔c.V r:=by simp only[Ctx.behind];rw[if_neg (by omega)]
   exact⟨_,kG,su,rfl,by rw[e1,g6],by rw[e2,g7],.inl ⟨lY,hp,e1,e2⟩⟩
  ·by_cases hc:R.length<=r/\r<R2.length
   ·left
    have hi:ids.length+(r-R.length)<aj.length:=by omega
    have su:c'.R (ids.length+(r-R.length))=some aj[ids.length+(r-R.length)]:=by rw[jV];exact aI hi
    obtain⟨h1,h2,h3,h4⟩:=fresh _ _ (by omega) su
    simp only[Ctx.behind]at jD
    rw[if_pos (.inr hc)]at jD
    rw[show R.length+(ids.length+(r-R.length)-ids.length)=r by omega]at h2
    rw[h2]at jD
    cases jD
    exact⟨_,_,su,rfl,by simp only[Ctx.behind];rw[if_pos hc],by simp only[Ctx.behind];rw[if_pos hc],.inr ⟨hc.1,by omega,by omega⟩⟩
   ·right
    simp only[Ctx.behind]at jD
    rw[if_neg (by rintro(h|h)<;>contradiction)]at jD
    exact⟨jD,lY,by simp only[Ctx.behind];rw[if_neg hc],by simp only[Ctx.behind];rw[if_neg hc],hc⟩
 have pH:iX c w (c.behind w c' ids R.length R2) w':=by
  refine⟨rfl,hx.cz.top,λb ib=>⟨.inl ib,?_⟩,λr row hr=>?_⟩
  ·exact(hx.cz.I b (.inl ib)).2
  ·by_cases lY:r∈ids
   ·have hp:=AS lY
    obtain⟨kG,q1,q2⟩:=k2 _ r hp
    have su:c'.R (pos r ids 0)=some kG:=by rw[jV];exact q1
    obtain⟨jB,g1,g2,g3,g4,g5,g6,g7,g8,g9,g10,g11⟩:=jv _ r kG hp su
    rw[hr]at g1;cases g1
    obtain⟨s1,s2,s3,s4⟩:=IU (bk ids R.length) true kG
    exact⟨_,by simp only[Ctx.behind];rw[if_pos (.inl lY)];exact g9,s1.trans g2,s2.trans g3,s3.trans g4,s4.trans g5,by simp only[Ctx.behind];rw[if_neg (by omega)],by simp only[Ctx.behind];rw[if_neg (by omega)],g11⟩
   ·have hc:¬(R.length<=r/\r<R2.length):=λhc=>by rw[e6 r hc.1 (by omega)]at hr;cases hr
    refine⟨row,by simp only[Ctx.behind];rw[if_neg (by rintro(h|h)<;>contradiction)];exact hr,rfl,rfl,rfl,rfl,by simp only[Ctx.behind];rw[if_neg hc],by simp only[Ctx.behind];rw[if_neg hc],λnv arr ha=>⟨arr,?_,rfl⟩⟩
    rw[Bz.heap _ (hm.lt hr nv) fun⟨s,x,h1,h2,h3,h4⟩=>lY (by rw[<-hm.inj s r x row h1 hr h2 nv h4];exact h3)]
    exact ha
 refine⟨Cl,Cx,⟨λr x jD=>?_,λr s x y hr hs v1 v2 he=>?_,λb ib=>?_,hx.mem.top,hm.jQ.mono pH.I⟩,pH,Bz,λb ib=>?_,λr h1 h2 h3=>?_⟩
 ·rcases inv r x jD with⟨i,ao,h1,rfl,h3,h4,_⟩|⟨h1,h2,h3,h4,h5⟩
  ·refine Yp Cl Cx h3 h4 (λ_ _ _ _ _=>trivial) (λhf=>?_) (hx.mem.row i ao h1)
   exact Zof (hI hf) (by rw[<-jV];exact h1)
  ·exact sW pH h3 h4 (λnv=>Bz.heap _ (hm.lt h1 nv) fun⟨s,x',g1,g2,g3,g4⟩=>h2 (by rw[<-hm.inj s r x' x g1 h1 g2 nv g4];exact g3)) (hm.row r x h1)
 ·have GU:∀i ao,c'.R i=some ao->¬c'.V i->(∃q,q∈ids/\ids[i]?=some q/\(∃y,c.R q=some y)/\¬c.V q/\c'.ρ i=c.ρ q)\/w.heap.size<=c'.ρ i:=λi ao h1 nv=>by
   by_cases hi:i<ids.length
   ·have iA:ids[i]?=some ids[i]:=aI hi
    obtain⟨row,g1,g2,g3,g4,g5,g6,g7,_⟩:=jv i _ ao iA h1
    exact .inl ⟨_,fL iA,iA,⟨row,g1⟩,λe=>nv (g7.2 e),g6⟩
   ·exact .inr ((fresh i ao (by omega) h1).2.2.2 nv)
  rcases inv r x hr with⟨i,x',h1,_,h3,h4,h5⟩|⟨h1,h2,h3,h4,h5⟩<;>rcases inv s y hs with⟨j,y',g1,_,g3,g4,g5⟩|⟨g1,g2,g3,g4,g5⟩
  ·have:i=j:=hx.mem.inj i j x' y' h1 g1 (λe=>v1 (h4.2 e)) (λe=>v2 (g4.2 e)) (by rw[<-h3,<-g3];exact he)
   subst this
   rcases h5 with⟨_,q1,_⟩|⟨_,q1,q2⟩<;>rcases g5 with⟨_,p1,_⟩|⟨_,p1,p2⟩
   ·rw[q1]at p1;exact Option.some.inj p1
   ·have:=(List.getElem?_eq_some_iff.1 q1).1;omega
   ·have:=(List.getElem?_eq_some_iff.1 p1).1;omega
   ·omega
  ·exfalso
   have nv:=λe=>v1 (h4.2 e)
   have ns:=λe=>v2 (g4.2 e)
   rw[h3,g3]at he
   rcases GU i x' h1 nv with⟨q,q1,q2,⟨z,q3⟩,q4,q5⟩|q
   ·exact g2 (by rw[<-hm.inj q s z y q3 g1 q4 ns (by rw[<-q5];exact he)];exact q1)
   ·have:=hm.lt g1 ns;omega
  ·exfalso
   have nv:=λe=>v2 (g4.2 e)
   have ns:=λe=>v1 (h4.2 e)
   rw[h3,g3]at he
   rcases GU j y' g1 nv with⟨q,q1,q2,⟨z,q3⟩,q4,q5⟩|q
   ·exact h2 (by rw[<-hm.inj q r z x q3 h1 q4 ns (by rw[<-q5];exact he.symm)];exact q1)
   ·have:=hm.lt h1 ns;omega
  ·exact hm.inj r s x y h1 g1 (λe=>v1 (h4.2 e)) (λe=>v2 (g4.2 e)) (by rw[<-h3,<-g3];exact he)
 ·rcases ib with ib|⟨ib,gr⟩
  ·refine⟨Nat.lt_of_lt_of_le (hm.fe b ib).1 Bz.size,λr x hr v=>?_⟩
   rcases inv r x hr with⟨i,x',h1,_,h3,h4,h5⟩|⟨h1,h2,h3,h4,h5⟩
   ·have:=(hx.mem.fe b ((hx.cz.I b (.inl ib)).1)).2 i x' h1 (λe=>v (h4.2 e))
    rw[h3];exact this
   ·rw[h3];exact(hm.fe b ib).2 r x h1 (λe=>v (h4.2 e))
  ·refine⟨(hx.mem.fe b ib).1,λr x hr v=>?_⟩
   rcases inv r x hr with⟨i,x',h1,_,h3,h4,h5⟩|⟨h1,h2,h3,h4,h5⟩
   ·rw[h3];exact(hx.mem.fe b ib).2 i x' h1 (λe=>v (h4.2 e))
   ·have:=hm.lt h1 (λe=>v (h4.2 e))
    rw[h3];omega
 ·rcases ib with h|⟨_,h⟩
  ·exact .inl h
  ·exact .inr h
 ·have hi:ids.length+(r-R.length)<aj.length:=by omega
  have su:c'.R (ids.length+(r-R.length))=some aj[ids.length+(r-R.length)]:=by rw[jV];exact aI hi
  obtain⟨_,_,_,h4⟩:=fresh _ _ (by omega) su
  simp only[Ctx.behind,if_pos (show R.length<=r/\r<R2.length from⟨h1,h2⟩)]at h3⊢
  exact h4 h3
theorem Yw(args:List D):Cw [] args=[]:=by cases args<;>rfl
theorem Zh4(R:Rows)(args:List D):mf R [] args=[]:=by
 unfold mf;rw[Yw];rfl
theorem Ys{x:bc}(dx:bm P x){f:FuncId}(hf:x.f=f)(hy:x.f<YB){pos:String}{guard:Option (Nat×Bool)}
 (h:Calls P x.f (args.toList.map a.eval).toArray w λe w'=>∃v,e=.returned v/\K (a.put dst v) w'):(⟨dst,.call ⟨.value (.func f),args,dj⟩,type,pos,after,guard⟩:Oper).mW P a w K Q:=by
 have ie:(execOp a.eval (⟨dst,.call ⟨.value (.func f),args,dj⟩,type,pos,after,guard⟩:Oper)).run P w=.ok (.enter f (args.toList.map a.eval).toArray) w:=by
  simp only[execOp,resolve,Act.eval,Deferred.ofValue,Sem.run_bind,Sem.run_pure,Result.andThen_ok,invoke,Array.empty_append,Array.append_empty]
  rw[<-hf,dx.enters hy,<-bV,bW]
 unfold Oper.mW
 rw[ie]
 show Calls P f _ w _
 rw[<-hf]
 exact h
theorem qT (hG:jr P G){f:FuncId}{guard:Option (Nat×Bool)}{R:Rows}{K:D->Rows->Prop}
    (lD:Qc G f=none) (h:sE G f (args.toList.map ev) R K): ∃val R' x,K val R'/\oA G f=some x/\DV P ⟨dst, .call ⟨.value (.func f),args,dj⟩,type,pos',after,guard⟩ ev R val R'/\(x.refs=[]->pz P ⟨dst, .call ⟨.value (.func f),args,dj⟩,type,pos',after,guard⟩ ev R val R'):=by
  unfold sE at h
  split at h
  . rename_i x hx
    have uU:x.gone=none:=by simpa [Qc,hx] using lD
    obtain⟨dx,hf⟩:=FL hG hx
    split at h
    . rename_i az dy has iN
      simp only[dd,Bool.or_eq_true,aE]at h
      obtain⟨⟨⟨ES,h1,h2⟩,h3,h4⟩,h⟩:=h
      generalize IV:mf R x.refs (args.toList.map ev)=ids at*
      have uo:=LI.1 h1
      have jg:=LI.1 h2
      have kJ:=LJ.1 h3
      have oj:=TU.1 h4
      have main : ∀res aj,ids.length<=aj.length->K (res.sD (bk ids R.length) true) (tz (bk ids R.length) ids aj R++AV (bk ids R.length) (aj.drop ids.length))->kg P x.f az dy res aj->(x.flat=true->FF res/\re aj)->
          ∃val R' y,K val R'/\oA G f=some y/\DV P ⟨dst, .call ⟨.value (.func f),args,dj⟩,type,pos',after,guard⟩ ev R val R'/\(y.refs=[]->pz P ⟨dst, .call ⟨.value (.func f),args,dj⟩,type,pos',after,guard⟩ ev R val R'):=by
        intro res aj hle hK hA jn
        let len:=match ly x.refs (args.toList.map ev) with|[]=>false|_=>true
        have hlen:ly x.refs (args.toList.map ev)≠[]->len=true:=by
          intro gm
          show(match ly x.refs (args.toList.map ev) with|[]=>false|_=>true)=true
          split
          . contradiction
          . rfl
        have wx:len=true->x.flat=true:=by
          intro hl
          rcases ES with h|h
          . exact h.1
          . exfalso
            have hl:(match ly x.refs (args.toList.map ev) with|[]=>false|_=>true)=true:=hl
            split at h
            . rename_i e;rw[e]at hl;cases hl
            . cases h
        have core: ∀(c:Ctx) (w:World) (a:Act),Mem c w->c.base<=w.heap.size->lU c R->(∀r row,r∈ids->R.getD r none=some row->c.R r=some row)->(∀r,R.length<=r->r<R.length+(aj.length-ids.length)->c.R r=none)->(∀y∈args.toList,Rep c w (ev y) (a.eval y))->
            ∀(K':Act->World->Prop) (Q:Exit->Act->World->Prop),(∀v w' c',lB (c.pass w ids dy len) w c' w'->(∀i,c'.R i=aj[i]?)->Rep (c.behind w c' ids R.length (tz (bk ids R.length) ids aj R++AV (bk ids R.length) (aj.drop ids.length))) w' (res.sD (bk ids R.length) true) v->K' (a.put dst v) w')->
            (⟨dst, .call ⟨.value (.func f),args,dj⟩,type,pos',after,guard⟩:Oper).mW P a w K' Q:=by
          intro c w a hm hb oK nI e6 ei K' Q pQ
          have hn:=T0 (len:=len) (w:=w) nI iN
          have fq:=LK (len:=len) (ρ:=a.eval) hm oK hn has hlen oj uo ei
          have lX:=hA (c.pass w ids dy len) w _ (Yq hm nI kJ jg iN) rfl (λr=>rfl) fq
          refine Ys dx hf (dx.real uU) (lX.mono λe w' sw=> ?_)
          obtain⟨v,c',he,nm,jV,kE⟩:=sw
          obtain⟨g1,g2,_⟩:=YQ hm hb nI e6 kJ iN hle nm jV (λe=>(jn (wx e)).2) rfl
          exact⟨v,he,pQ v w' c' nm jV (Yr g1 g2 (λ_=>trivial) (λe=>(jn (wx e)).1) kE)⟩
        have iZ: ∀(c:Ctx) (w:World) (a:Act),(∀y∈(⟨dst, .call ⟨.value (.func f),args,dj⟩,type,pos',after,guard⟩:Oper).op.operands,Rep c w (ev y) (a.eval y))-> ∀y∈args.toList,Rep c w (ev y) (a.eval y):=λc w a ei y hy=>ei y (by simp [Op.operands,Call.operands];exact .inr (by simpa using hy))
        refine⟨_,_,x,hK,hx,λc w a hm hb hR ei K' Q pQ=> ?_,λhrefs=> ?_⟩
        . have oK:lU c R:=λr row ao g1 g2=>by rw[hR,g2]at g1;exact(Option.some.inj g1).symm
          have nI: ∀r row,r∈ids->R.getD r none=some row->c.R r=some row:=λr row _ e=>by rw[hR];exact e
          have e6: ∀r,R.length<=r->r<R.length+(aj.length-ids.length)->c.R r=none:=λr e _=>by rw[hR,aV,aJ e];rfl
          refine core c w a hm hb oK nI e6 (iZ c w a ei) K' Q λv w' c' nm jV kE=> ?_
          obtain⟨g1,g2,g3,g4,g5,g6,g7⟩:=YQ hm hb nI e6 kJ iN hle nm jV (λe=>(jn (wx e)).2) rfl
          have uQ:(tz (bk ids R.length) ids aj R).length=R.length:=(Ur kJ hle (λr hr=>by
            obtain⟨row,q1,_⟩:=(EK iN).2 _ r (AS hr)
            by_cases hl:r<R.length
            . exact hl
            . rw[aV,aJ (by omega)]at q1;cases q1)).1
          have ir:=Ur (f:=bk ids R.length) kJ hle (λr hr=>by
            obtain⟨row,q1,_⟩:=(EK iN).2 _ r (AS hr)
            by_cases hl:r<R.length
            . exact hl
            . rw[aV,aJ (by omega)]at q1;cases q1)
          refine pQ v w' _ ⟨g3,g4,g5.mono λb _ ⟨r,y,k1,k2,_,k4⟩=>⟨r,y,k1,k2,k4⟩,g6,λr ao hr hv=> ?_⟩ (λr=> ?_) kE
          . by_cases hc:R.length<=r/\r<(tz (bk ids R.length) ids aj R++AV (bk ids R.length) (aj.drop ids.length)).length
            . exact .inr (g7 r hc.1 hc.2 hv)
            . left
              simp only[Ctx.behind,if_neg hc]at hv⊢
              refine⟨?_,hv,trivial⟩
              simp only[Ctx.behind]at hr
              split at hr
              . rename_i GV
                rcases GV with GV|GV
                . obtain⟨row,q1,_⟩:=(EK iN).2 _ r (AS GV)
                  exact⟨row,nI r row GV q1⟩
                . contradiction
              . exact⟨_,hr⟩
          . simp only[Ctx.behind]
            split
            . rfl
            . rename_i GV
              have h1:r∉ids:=λe=>GV (.inl e)
              by_cases bg:r<R.length
              . rw[aV,bI (by omega),<-aV,ir.2.2 r h1,hR]
              . rw[hR,aV,aJ (by omega),aV,aJ (by
                  by_cases h2:r<(tz (bk ids R.length) ids aj R++AV (bk ids R.length) (aj.drop ids.length)).length
                  . exact(GV (.inr ⟨by omega,h2⟩)).elim
                  . omega)]
        . have PD:ids=[]:=by rw[<-IV,hrefs];exact Zh4 R _
          subst PD
          have uv:tz (bk [] R.length) [] aj R=R:=by cases aj<;>rfl
          rw[uv]
          simp only[dE,fS]at*
          refine⟨⟨_,rfl⟩,λc w a hm hb oK e6 ei K' Q pQ=> ?_⟩
          have nI: ∀r row,r∈([]:List Nat)->R.getD r none=some row->c.R r=some row:=λr row e=>by cases e
          have GW: ∀r,R.length<=r->r<R.length+(aj.length-0)->c.R r=none:=λr e1 e2=>e6 r e1 (by simp [AV];omega)
          refine core c w a hm hb oK nI GW (iZ c w a ei) K' Q λv w' c' nm jV kE=> ?_
          obtain⟨g1,g2,g3,g4,g5,g6,g7⟩:=YQ hm hb nI GW kJ iN hle nm jV (λe=>(jn (wx e)).2) rfl
          rw[uv]at g3 g4 g6 g7 kE
          simp only[dE,fS]at g3 g4 g6 g7 kE
          refine pQ v w' _ ⟨g3,g4,g5.mono (λb _ ⟨r,y,k1,k2,k3,k4⟩=>(by cases k3)),g6,λr=> ?_,λr hr=> ?_,λr k1 k2=>g7 r k1 k2⟩ kE
          . simp [Ctx.behind]
          . simp only[Ctx.behind]
            rw[if_neg (by omega),if_neg (by omega)]
            exact⟨rfl,Iff.rfl⟩
      split at h
      . rename_i res aj hm
        simp only[DI,dd,D.c8,mX]at h
        obtain⟨h5,h6⟩:=dx.ok uU _ _ _ _ hm
        exact main res aj (lE h.1) h.2 h5 h6
      . rename_i p res aj hm
        simp only[DI,dd,D.c8,mX]at h
        obtain⟨h5,h6⟩:=dx.when uU _ _ _ _ _ hm h.1
        exact main res aj (lE h.2.1) h.2.2 h5 h6
      . rename_i α v res aj hm
        have h:=h v rfl
        simp only[DI,dd,D.c8,mX]at h
        obtain⟨h5,h6⟩:=dx.abs uU _ _ _ _ _ _ hm
        exact main (res v) (aj v) (lE h.1) h.2 h5 h6
      . rename_i p α v res aj hm
        obtain⟨hp,h⟩:=h
        have h:=h v rfl
        simp only[DI,dd,D.c8,mX]at h
        obtain⟨h5,h6⟩:=dx.kY uU _ _ _ _ _ _ _ hm hp
        exact main (res v) (aj v) (lE h.1) h.2 h5 h6
      . exact h.elim
    . exact h.elim
  . exact h.elim
theorem Zbp{f:Nat->Nat}:∀{ds:List D},Us ds=true->D.mi f true ds=ds
 |[],_=>rfl
 |d ::l,h=>by
  simp only[Us]at h
  split at h
  ·rename_i hd
   simp only[D.mi,Zbp h]
   cases d<;>first|(simp[PE]at hd;done)|simp[D.mh]
  ·cases h
theorem Zib{f:Nat->Nat}(h:sF d=true):d.jb f true=d:=by
 cases d with
 |agg cs=>show D.agg (D.mi f true cs)=_;rw[Zbp h]
 |_=>first|(simp[sF,PE]at h;done)|simp[D.jb,D.mh]
theorem Zbt{f:Nat->Nat}:∀{ds:List D},Ut ds=true->D.Ai f true ds=ds
 |[],_=>rfl
 |d ::l,h=>by
  simp only[Ut]at h
  split at h
  ·rename_i hd
   simp only[D.Ai,Zbt h,Zib hd]
  ·cases h
theorem Zsd{f:Nat->Nat}(h:uw d=true):d.sD f true=d:=by
 cases d with
 |dv ds=>show D.dv (D.Ai f true ds)=_;rw[Zbt h]
 |agg cs=>exact Zib (d:=.agg cs) h
 |_=>first|(simp[uw,sF,PE]at h;done)|simp[D.sD,D.jb,D.mh]
theorem Yv{R:Rows}(f g:Nat->Nat):∀{ds:List D},sx R f [] ds=sx R g [] ds
 |[]=>rfl
 |d::l=>by simp only[sx,Yv f g (ds:=l)]
theorem xT{G:List bc}{f:FuncId}{args:List D}{R:Rows}{K:D->Rows->Prop}(h:JW G f args R K):sE G f args R K:=by
 unfold JW at h
 split at h
 ·rename_i x hx
  split at h
  ·rename_i hrefs
   split at h
   ·rename_i az has
    simp only[dd]at h
    have hv:∀{res:D} {aj:List Row},LU R res aj K->DI R [] res aj K:=by
     intro res aj h
     have uv:tz (bk [] R.length) [] aj R=R:=by cases aj<;>rfl
     simp only[DI,dd,dE,fS,uv]
     refine⟨by simp,?_⟩
     unfold LU at h
     split at h
     ·simp only[dd,D.c8]at h
      rw[Zsd h.1]
      simp only[D.c8,mX,AV,List.map_nil,List.append_nil]
      exact h.2
     ·exact h
    unfold sE
    simp only[hx,hrefs,Zh4]
    rw[Yv _ (λr=>r),has]
    simp only[AR,dd,Yw]
    refine⟨?_,?_⟩
    ·have:∀l:List Nat,nB l []=true:=λl=>by
      rw[TU];intro r _ hr;cases hr
     simp only[pb,Cn,Cv,this,Bool.and_true]
     have h1:=h.1
     revert h1
     cases ly [] args<;>simp[Cy]
    ·revert h
     cases x.m az []with
     |no=>exactλh=>h.2
     |ok res aj=>exactλh=>hv h.2
     |«when»p res aj=>exactλh=>⟨h.2.1,hv h.2.2⟩
     |abs α v res aj=>exactλh X hX=>hv (h.2 X hX)
     |kY p α v res aj=>exactλh=>⟨h.2.1,λX hX=>hv (h.2.2 X hX)⟩
   ·exact h.elim
  ·exact h
 ·exact h.elim
theorem VX(hG:jr P G){f:FuncId}{guard:Option (Nat×Bool)}{R:Rows}{K:D->Rows->Prop}
 (lD:Qc G f=none) (h:JW G f (args.toList.map ev) R K):∃val R' x,K val R'/\oA G f=some x/\DV P ⟨dst,.call ⟨.value (.func f),args,dj⟩,type,pos',after,guard⟩ ev R val R'/\(x.refs=[]->pz P ⟨dst,.call ⟨.value (.func f),args,dj⟩,type,pos',after,guard⟩ ev R val R'):=
 qT hG lD (xT h)
