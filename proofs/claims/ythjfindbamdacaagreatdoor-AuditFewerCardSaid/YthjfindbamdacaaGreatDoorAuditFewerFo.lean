import Derived.Test.YthjfindbamdacaaGreatDoorAuditFewerFp
open List renaming getD->aK,getElem?_eq_none->aM,getElem?_append_left->aZ,getElem?_take->aU,getElem?_drop->fK,getElem?_eq_getElem->cG,getElem?_toArray->aY,map_cons->fT,map_toArray->bR,mem_cons->cS,mem_map->gB,mem_of_getElem?->fX,length_nil->dJ,drop_zero->gC
open Nat renaming le_refl->aO,zero_add->aX,add_assoc->fZ
open Option renaming getD_some->aG
open Bool renaming false_eq_true->aN
open Array renaming toArray_toList->bS,extract_eq_self_of_le->gA
set_option linter.all false
namespace Go.GD
open Go
structure KG(c:Ctx)(w:World)(R R':Rows)(c':Ctx)(w':World):Prop where
 mem:Mem c' w'
 cf:jn c w c' w'
 fr:Fr (λ_=>False) w w'
 fu:∀b,c'.I b->c.I b\/w.heap.size<=b
 rows:∀r,c'.R r=if R.length<=r/\r<R'.length then R'.getD r none else c.R r
 jC:∀r,r<R.length\/R'.length<=r->c'.ρ r=c.ρ r/\(c'.V r↔c.V r)
 new:∀r,R.length<=r->r<R'.length->¬c'.V r->w.heap.size<=c'.ρ r
structure lW(c:Ctx)(w:World)(c':Ctx)(w':World):Prop where
 mem:Mem c' w'
 cf:jn c w c' w'
 fr:Fr (λb=>∃r x,c.R r=some x/\¬c.V r/\c.ρ r=b) w w'
 fu:∀b,c'.I b->c.I b\/w.heap.size<=b
 ov:∀r ak,c'.R r=some ak->¬c'.V r->((∃row,c.R r=some row)/\¬c.V r/\c'.ρ r=c.ρ r)\/w.heap.size<=c'.ρ r
def QH(P:Program)(o:Oper)(a:Act)(next:Act->World->Prop):Result Next->Prop
 |.ok (.value v) w'=>next (a.put o.dst v) w'
 |.ok .skip w'=>next (a.put o.dst undef) w'
 |.ok (.enter f args) w'=>Calls P f args w' λe FZ=>∃v,e=.returned v/\next (a.put o.dst v) FZ
 |.ok (.round l f tmps assign body) w'=>RoundIn Fence.wide 0 P l f tmps assign body w' λe FZ=>∃v,e=.returned v/\next (a.put o.dst v) FZ
 |_=>False
def _root_.Go.Oper.ny(P:Program)(o:Oper)(a:Act)(w:World)(next:Act->World->Prop)(_:Exit->Act->World->Prop):Prop:=QH P o a next ((execOp a.eval o).run P w)
theorem Gz{P:Program}{o:Oper}{a:Act}{w w':World}{u:Value}{K:Act->World->Prop}{Q:Exit->Act->World->Prop}(h:(execOp a.eval o).run P w=.ok (.value u) w')(hK:K (a.put o.dst u) w'):o.ny P a w K Q:=by
 unfold Oper.ny;rw[h];exact hK
theorem zR{P:Program}{o:Oper}{a:Act}{w w':World}{K:Act->World->Prop}{Q:Exit->Act->World->Prop}(h:(execOp a.eval o).run P w=.ok .skip w')(hK:K (a.put o.dst undef) w'):o.ny P a w K Q:=by
 unfold Oper.ny;rw[h];exact hK
theorem Zc{P:Program}{o:Oper}{a:Act}{w:World}{K K':Act->World->Prop}{Q Q':Exit->Act->World->Prop}(h:∀a w,K a w->K' a w)(hh:o.ny P a w K Q):o.ny P a w K' Q':=by
 unfold Oper.ny at hh⊢
 revert hh
 generalize(execOp a.eval o).run P w=r
 intro hh
 cases r with
 |halt _ _=>exact hh.elim
 |ok n w'=>
  cases n with
  |value v=>exact h _ _ hh
  |skip=>exact h _ _ hh
  |enter f args=>exact Calls.mono hh λe w' ⟨v,he,hk⟩=>⟨v,he,h _ _ hk⟩
  |round l f tmps assign body=>exact RoundIn.mono hh λe w' ⟨v,he,hk⟩=>⟨v,he,h _ _ hk⟩
  |_=>exact hh.elim
def pT(P:Program)(o:Oper)(ev:Operand->D)(R:Rows)(val:D)(R':Rows):Prop:=
 (∃news,R'=R++news)/\∀(c:Ctx) (w:World) (a:Act),Mem c w->c.base<=w.heap.size->mO c R->(∀r,R.length<=r->r<R'.length->c.R r=none)->(∀x∈o.op.operands,Rep c w (ev x) (a.eval x))->
  ∀K Q,(∀v w' c',KG c w R R' c' w'->Rep c' w' val v->K (a.put o.dst v) w')->o.ny P a w K Q
def EY(P:Program)(o:Oper)(ev:Operand->D)(R:Rows)(val:D)(R':Rows):Prop:=
 ∀ (c:Ctx) (w:World) (a:Act),Mem c w->c.base<=w.heap.size->(∀r,c.R r=R.getD r none)->(∀x∈o.op.operands,Rep c w (ev x) (a.eval x))->
  ∀K Q,(∀v w' c',lW c w c' w'->(∀r,c'.R r=R'.getD r none)->Rep c' w' val v->K (a.put o.dst v) w')->o.ny P a w K Q
theorem pT.toW{P:Program}{o:Oper}{ev:Operand->D}{R:Rows}{val:D}{R':Rows}(h:pT P o ev R val R'):EY P o ev R val R':=by
 obtain⟨⟨news,hn⟩,h⟩:=h
 intro c w a hm hb hR ey K Q hK
 refine h c w a hm hb (λr row ak h1 h2=>by rw[hR,h2]at h1;exact(Option.some.inj h1).symm) (λr h1 _=>by rw[hR];simp[aK,aM h1]) ey K Q λv w' c' hs hr=>?_
 refine hK v w' c' ⟨hs.mem,hs.cf,hs.fr.mono (λb _ hf=>hf.elim),hs.fu,λr ak nH hv=>?_⟩ (λr=>?_) hr
 ·by_cases h1:R.length<=r/\r<R'.length
  ·exact .inr (hs.new r h1.1 h1.2 hv)
  ·rw[hs.rows,if_neg h1]at nH
   obtain⟨h2,h3⟩:=hs.jC r (by omega)
   exact .inl ⟨⟨_,nH⟩,λe=>hv (h3.2 e),h2⟩
 ·rw [hs.rows,hR]
  split
  ·rfl
  ·rename_i h1
   subst hn
   by_cases h2:r<R.length
   ·simp[aK,aZ h2]
   ·have h3:(R++news).length<=r:=by omega
    simp[aK,aM h3,aM (show R.length<=r by omega)]
theorem nd{P:Program}{o:Oper}{ev:Operand->D}{R:Rows}{val:D}(h:∀(c:Ctx) (w:World) (a:Act),Mem c w->mO c R->(∀x∈o.op.operands,Rep c w (ev x) (a.eval x))->∃u,(execOp a.eval o).run P w=.ok (.value u) w/\Rep c w val u):pT P o ev R val R:=by
 refine⟨⟨[],by simp⟩,λc w a hm hb hA _ ey K Q hK=>?_⟩
 obtain⟨u,hu,hr⟩:=h c w a hm hA ey
 exact Gz hu (hK u w c ⟨hm,jn.refl c w,Fr.refl _ w,λb hb=>.inl hb,λr=>by rw[if_neg (by omega)],λ_ _=>⟨rfl,Iff.rfl⟩,λr h1 h2=>by omega⟩ hr)
theorem Va{P:Program}{o:Oper}{ev:Operand->D}{R:Rows}{val:D}{row:Row}(h:∀(c:Ctx) (w:World) (a:Act),Mem c w->mO c R->(∀x∈o.op.operands,Rep c w (ev x) (a.eval x))->
 ∃x:Sem Value,execOp a.eval o=(do pure (.value (<-x)))/\Vb P x w c R.length row val):pT P o ev R val (R++[some row]):=by
 refine⟨⟨[some row],rfl⟩,λc w a hm hb hA fi ey K Q hK=>?_⟩
 obtain⟨x,hx,u,arr,hu,hi,hr⟩:=h c w a hm hA ey
 have hk:c.R R.length=none:=fi R.length (aO _) (by simp)
 have ig:(execOp a.eval o).run P w=.ok (.value u) (w.alloc (.cells arr row.ty)):=by
  rw[hx,Sem.run_bind,hu];rfl
 refine Gz ig (hK u _ (c.add R.length row w.heap.size) ⟨hm.alloc hk row arr hi.1 hi.2,jn.alloc hm hk row _,Fr.alloc _ w _,λb hb=>.inl hb,λr=>?_,λr hr=>?_,λr h1 h2 _=>?_⟩ (hr hk hm))
 ·by_cases e:r=R.length
  ·subst e
   simp[Ctx.add,aK]
  ·have:¬(R.length<=r/\r<(R++[some row]).length):=by simp;omega
   rw[if_neg this]
   simp[Ctx.add,e]
 ·have:r≠R.length:=by simp at hr;omega
  simp[Ctx.add,this]
 ·have:r=R.length:=by simp at h2;omega
  simp[Ctx.add,this]
def Gy:Op->Bool|.store _ _ _=>true|_=>false
theorem Zq9{c:Ctx}{w:World}{cs:List D}{vs:List Value}(h:jr c w cs vs)(o n:Nat):jr c w ((cs.drop o).take n) ((vs.drop o).take n):=by
 rw[Ez]at h⊢
 obtain⟨h1,h2⟩:=h
 refine⟨by simp[h1],λj v hv=>?_⟩
 simp only[aU,fK]at hv
 split at hv
 ·rename_i hj
  have:=h2 (o+j) v hv
  simp only[aK,aU,fK,hj,if_true]at this⊢
  exact this
 ·cases hv
theorem y9{c:Ctx}{w:World}:∀{dd:List rp} {az:List D} {vs:List Value},jr c w az vs->fits dd az=true->rh vs.toArray 0 az
 |dd,az,vs,h,hf=>by
  intro j d hj
  have cj:=(List.getElem?_eq_some_iff.1 hj).1
  have hl:=h.length
  have hv:vs[j]?=some vs[j]:=cG (by omega)
  have hr:=(Ez.1 h).2 j _ hv
  simp only[aK,hj,aG]at hr
  have hs :∀{dd:List rp} {az:List D} {j:Nat},fits dd az=true->az[j]?=some d->(∃k n,d=.int k n)\/(∃b,d=.bool b)\/∃s,d=.str s:=by
   intro dd
   induction dd with
   |nil=>intro az j hf hj;cases az<;>simp[fits]at hf;simp at hj
   |cons t ts ih=>
    intro az j hf hj
    cases az with
    |nil=>cases t<;>simp[fits]at hf
    |cons e es=>
     cases t<;>simp only[fits,aE,aN]at hf
     all_goals
      cases j with
      |succ j=>exact ih hf.2 (by simpa using hj)
      |zero=>
       simp at hj
       subst hj
       cases e<;>simp[D.isInt,D.isBool,D.isStr]at hf⊢
  simp only[aX,aY,hv]
  rcases hs hf hj with⟨k,n,rfl⟩|⟨b,rfl⟩|⟨s,rfl⟩<;>(simp only[cv]at hr;rw[hr];rfl)
theorem ZW{c:Ctx}{w:World}:∀{ds:List D} {vs:List Value},kh c w ds vs->∀i,i<ds.length->∃v,vs[i]?=some v/\VRep c w (ds.getD i .dead) v
 |[],[],_,i,h=>by simp at h
 |d::ds,v::vs,h,0,_=>⟨v,rfl,h.1⟩
 |d::ds,v::vs,h,i+1,hi=>by
  obtain⟨u,hu,hr⟩:=ZW h.2 i (by simpa using hi)
  exact⟨u,by simpa using hu,by simpa using hr⟩
 |[],_::_,h,_,_=>h.elim
 |_::_,[],h,_,_=>h.elim
theorem xaw{d:D}{x:iw}(h:De d=some x):x.d=d:=by
 have go:∀{cs:List iw} {ps:List (Nat×Nat×Nat)},QI cs=some ps->ps.map IA=cs:=by
  intro cs
  induction cs with
  |nil=>intro ps h;simp[QI]at h;subst h;rfl
  |cons y l ih=>
   intro ps h
   simp only[QI]at h
   split at h
   ·rename_i p qs h1 h2
    cases h
    simp only[fT,ih h2]
    cases y<;>simp[HO]at h1
    subst h1;rfl
   ·cases h
 cases d<;>simp only[De]at h<;>first|(cases h;done)|skip
 case gn f cs=>
  split at h
  ·rename_i ps hp;cases h;simp only[iw.d,go hp]
  ·cases h
 all_goals(cases h;rfl)
theorem W3{c:Ctx}{w:World}{ev:Operand->D}{ρ:Operand->Value}:∀{xs:List Operand} {cs:List iw},KV (xs.map ev)=some cs->(∀x∈xs,Rep c w (ev x) (ρ x))->oX c w cs (xs.map ρ)
 |[],cs,h,_=>by simp[KV]at h;subst h;trivial
 |x ::xs,cs,h,hr=>by
  simp only[fT,KV]at h
  split at h
  ·rename_i y ys h1 h2
   cases h
   refine⟨?_,W3 h2 λz hz=>hr z (by simp[hz])⟩
   have:=hr x (by simp)
   rw[<-xaw h1]at this
   rw[WM]
   cases y<;>exact this
  ·cases h
theorem NB{P:Program}{T:fq}(hT:jB P T)(o:Oper)(ev:Operand->D)(R:Rows)(K:D->Rows->Prop)(h:ie T o.op ev R K):
 ∃val R',K val R'/\(if Gy o.op then EY P o ev R val R' else pT P o ev R val R'):=by
 obtain⟨dst,op,type,pos,after,guard⟩:=o
 simp only at h
 cases op<;>(try simp only[ie]at h)<;>try(exact h.elim)
 case makeFunc fn first captured=>
  cases fn<;>simp only at h<;>try(exact h.elim)
  rename_i f
  simp only[db,aE]at h
  obtain⟨⟨h0,hy⟩,h⟩:=h
  split at h
  ·rename_i cs hc
   refine⟨_,_,h,nd λc w a hm hA ey=>?_⟩
   have hf:first= #[]:=Array.eq_empty_of_size_eq_zero (bE h0)
   subst hf
   refine⟨.func (.func f) #[] (captured.map a.eval),?_,captured.toList.map a.eval,?_,W3 hc λx hx=>ey x (by simp[Op.operands];simpa using hx)⟩
   ·simp only[execOp,Instr.makeFunc,Sem.run_bind,Sem.run_pure,Array.map_empty];rfl
   ·exact .inl ⟨lE hy,by rw[<-bR,bS]⟩
  ·exact h.elim
 case move x=>
  rw[D.cq]at h
  exact⟨_,_,h,nd λc w a hm hA ey=>⟨_,rfl,ey x (by simp[Op.operands])⟩⟩
 case assign x=>
  rw[D.cq]at h
  exact⟨_,_,h,nd λc w a hm hA ey=>⟨_,rfl,ey x (by simp[Op.operands])⟩⟩
 case alloc t=>
  split at h
  ·rename_i ht
   simp only[db,aE,NF]at h
   obtain⟨⟨h0,hl⟩,h⟩:=h
   exact⟨_,_,h,Va λc w a hm hA ey=>⟨_,rfl,Zo7 hT ht (lE h0) (bE hl) R.length c w⟩⟩
  ·exact h.elim
 case box t x=>
  split at h
  ·rename_i ht
   simp only[db,aE,NF,D.fk]at h
   obtain⟨⟨⟨h0,hv⟩,hl⟩,h⟩:=h
   exact⟨_,_,h,Va λc w a hm hA ey=>⟨_,rfl,xaP (lE h0) hv (bE hl) R.length c w (ey x (by simp[Op.operands]))⟩⟩
  ·exact h.elim
 case build t parts=>
  obtain⟨val,hK,hr⟩:=zS hT h
  refine⟨_,_,hK,nd λc w a hm hA ey=>?_⟩
  obtain⟨u,hu,hx⟩:=hr c w a.eval (λp hp=>ey p.2 (by simp[Op.operands];exact⟨p.1,by simpa using hp⟩))
  refine⟨u,?_,hx⟩
  simp only[execOp]
  rw[Sem.run_bind,show parts.map (λx=>(x.1,a.eval x.2))=(parts.toList.map λp=>(p.1,a.eval p.2)).toArray from by rw[<-bR,bS],hu]
  rfl
 case buildSlice t len parts=>
  obtain⟨val,hK,hr⟩:=Zp3 hT h
  refine⟨_,_,hK,⟨[],by simp⟩,λc w a hm hb hA _ ey K Q hK=>?_⟩
  obtain⟨u,arr,ty,hu,hx⟩:=hr c w a.eval hb (λp hp=>ey p.2 (by simp[Op.operands];exact⟨p.1,by simpa using hp⟩))
  have ig:(execOp a.eval (⟨dst,.buildSlice t len parts,type,pos,after,guard⟩:Oper)).run P w=.ok (.value u) (w.alloc (.cells arr ty)):=by
   simp only[execOp]
   rw[Sem.run_bind,show parts.map (λx=>(x.1,a.eval x.2))=(parts.toList.map λp=>(p.1,a.eval p.2)).toArray from by rw[<-bR,bS],hu]
   rfl
  exact Gz ig (hK u _ (c.fu w.heap.size) ⟨zaw hm _,U9 hm _,Fr.alloc _ w _,λb hb=>hb.elim .inl (λe=>.inr (by omega)),λr=>by rw[if_neg (by omega)];rfl,λ_ _=>⟨rfl,Iff.rfl⟩,λr h1 h2=>by omega⟩ (hx hm))
 case load t x=>
  obtain⟨val,hK,hr⟩:=Zgm hT h
  refine⟨_,_,hK,nd λc w a hm hA ey=>?_⟩
  obtain⟨u,hu,hx⟩:=hr c w _ hm hA (ey x (by simp[Op.operands]))
  exact⟨u,by simp only[execOp];rw[Sem.run_bind,hu];rfl,hx⟩
 case store t x y=>
  obtain⟨R',hK,hr⟩:=Zpu hT h
  refine⟨_,_,hK,?_⟩
  simp only[Gy,if_true]
  intro c w a hm hb hR ey K Q hK
  obtain⟨r,ak,arr,w',ig,Zu,⟨row,cg⟩,hV,hg,kH,j4⟩:=hr c w _ _ hm hR (ey x (by simp[Op.operands])) (ey y (by simp[Op.operands]))
  refine zR (w':=w') ?_ (hK undef w' _ ⟨kH,hg,?_,λb hb=>.inl hb,λs oE hs hv=>?_⟩ j4 trivial)
  ·simp only[execOp];rw[Sem.run_bind,ig];rfl
  rotate_left
  ·by_cases e:s=r
   ·exact .inl ⟨⟨row,by rw[e];exact cg⟩,hv,rfl⟩
   ·exact .inl ⟨⟨oE,by simpa[Ctx.jD,e]using hs⟩,hv,rfl⟩
  ·rw[Zu]
   exact(SS w _ arr).mono λb _ e=>⟨r,row,cg,hV,e.symm⟩
 case nilCheck x=>
  have go:∀d,ev x=d->(∃a b c,d=.ptr a b c)\/(∃a b c e,d=.iv a b c e)->K d R->∃val R',K val R'/\pT P ⟨dst,.nilCheck x,type,pos,after,guard⟩ ev R val R':=by
   intro d hd QJ hK
   refine⟨_,_,hK,nd λc w a hm hA ey=>?_⟩
   have hx:=ey x (by simp[Op.operands])
   rw[hd]at hx
   have hp:∃q,a.eval x=.pointer (some q):=by
    rcases QJ with⟨r,i,off,rfl⟩|⟨sz,es,i,off,rfl⟩
    ·obtain⟨_,_,_,_,hv⟩:=hx;exact⟨_,hv⟩
    ·obtain⟨_,_,_,_,_,hv,_⟩:=hx;exact⟨_,hv⟩
   obtain⟨q,hq⟩:=hp
   refine⟨a.eval x,?_,hx⟩
   simp only[execOp,hq,Sem.run_pure]
  split at h
  ·rename_i hd;exact go _ hd (.inl ⟨_,_,_,rfl⟩) h
  ·rename_i hd;exact go _ hd (.inr ⟨_,_,_,_,rfl⟩) h
  ·exact h.elim
 case binOp op t x y ty=>
  have fin:∀(val:D),(∀c w u v,Rep c w (ev x) u->Rep c w (ev y) v->∃z,(do eqGuard op t x y u v;binOp op t u v).run P w=.ok z w/\Rep c w val z)->pT P ⟨dst,.binOp op t x y ty,type,pos,after,guard⟩ ev R val R:=λval hv=>
   nd λc w a hm hA ey=>by
    obtain⟨z,hz,hr⟩:=hv c w _ _ (ey x (by simp[Op.operands])) (ey y (by simp[Op.operands]))
    refine⟨z,?_,hr⟩
    simp only[execOp]
    rw[Sem.run_bind,hz];rfl
  unfold tg at h
  split at h
  ·rename_i k a k' b hx hy
   split at h
   ·simp only[db,decide_eq_true_eq]at h
    refine⟨_,_,h.2,fin _ λc w u v hu hv=>?_⟩
    rw[hx]at hu;rw[hy]at hv
    rw[Rep.int.1 hu,Rep.int.1 hv]
    exact⟨_,by rw[Sem.run_bind,ZX];exact(Zhp h.1 w).1,rfl⟩
   ·simp only[db,decide_eq_true_eq]at h
    refine⟨_,_,h.2,fin _ λc w u v hu hv=>?_⟩
    rw[hx]at hu;rw[hy]at hv
    rw[Rep.int.1 hu,Rep.int.1 hv]
    exact⟨_,by rw[Sem.run_bind,ZX];exact(Zhp h.1 w).2,rfl⟩
   ·rename_i h1 h2
    simp only[db,decide_eq_true_eq]at h
    obtain⟨rfl,h⟩:=h
    obtain⟨d,hK,hr⟩:=qax (P:=P) (t:=t) ⟨λe=>h1 e,λe=>h2 e⟩ h
    refine⟨_,_,hK,fin _ λc w u v hu hv=>?_⟩
    rw[hx]at hu;rw[hy]at hv
    rw[Rep.int.1 hu,Rep.int.1 hv]
    obtain⟨z,hz,ZY⟩:=hr w
    exact⟨z,by rw[Sem.run_bind,ZX];exact hz,ZY c⟩
  ·rename_i a b hx hy
   obtain⟨d,hK,hr⟩:=zax (P:=P) (t:=t) (op:=op) (a:=a) (b:=b) (K:=λd=>K d R) h
   refine⟨_,_,hK,fin _ λc w u v hu hv=>?_⟩
   rw[hx]at hu;rw[hy]at hv
   rw[Rep.str.1 hu,Rep.str.1 hv]
   obtain⟨z,hz,ZY⟩:=hr w
   exact⟨z,by rw[Sem.run_bind,Zlm];exact hz,ZY c⟩
  ·rename_i a b hx hy
   split at h
   ·rename_i ht
    have hd:=nb hT ht
    simp only at hd
    split at h
    ·refine⟨_,_,h,fin _ λc w u v hu hv=>?_⟩
     rw[hx]at hu;rw[hy]at hv
     rw[Rep.bool.1 hu,Rep.bool.1 hv]
     refine⟨_,?_,rfl⟩
     rw[Sem.run_bind,Qyv]
     simp only[binOp]
     simp[Op.equal,Op.maxDepth,run_equalIn_bool' w 9999 t a b hd]
    ·refine⟨_,_,h,fin _ λc w u v hu hv=>?_⟩
     rw[hx]at hu;rw[hy]at hv
     rw[Rep.bool.1 hu,Rep.bool.1 hv]
     refine⟨_,?_,rfl⟩
     rw[Sem.run_bind,Qyv]
     simp only[binOp]
     simp[Op.equal,Op.maxDepth,run_equalIn_bool' w 9999 t a b hd]
    ·exact h.elim
   ·exact h.elim
  ·rename_i a b hx hy
   split at h
   ·rename_i ti ht
    simp only[db,aE]at h
    obtain⟨⟨⟨⟨⟨Dd,h0⟩,he⟩,fa⟩,fb⟩,h⟩:=h
    obtain⟨i0,rT,ET,_,Bs,sC,_,heq,hc,d0,F9⟩:=DR (hT.get ht)
    have h0:0<ti.size:=lE h0
    rw[heq]at he
    simp only[aE,Bool.not_eq_true']at he
    rw[hc]at fa fb
    have ky:P.cellsOf t=(mn P 8 t).length:=by rw[<-hc,Bs];simp[Program.cellsOf,rT,ET]
    have uF:0<P.cellsOf t:=by simp[Program.cellsOf,rT,ET,h0]
    have QK:∀c w u v,Rep c w (ev x) u->Rep c w (ev y) v->∃us vs:Array Value,u=.agg us/\v=.agg vs/\(Op.equalIn 10000 t (.agg us) (.agg vs)).run P w=.ok (eqs a b) w:=by
     intro c w u v hu hv
     rw[hx]at hu;rw[hy]at hv
     obtain⟨us,hu,ru⟩:=hu
     obtain⟨vs,hv,rv⟩:=hv
     refine⟨us.toArray,vs.toArray,hu,hv,?_⟩
     have JZ:=ZZ (P:=P) 8 t 10000 (by omega) he.2 ky uF us.toArray vs.toArray 0 a b w fa fb (y9 ru fa) (y9 rv fb)
     have hlu:=ru.length;have hlv:=rv.length
     have hla:=th fa;have NT:=th fb
     have uA:QF d0=true:=by rw[<-MJ F9,<-sC];exact Dd
     simp only[oK,Sem.run_bind,Vc F9 uA uF,Result.andThen_ok]at JZ
     rw[show us.toArray.extract 0 (0+P.cellsOf t)=us.toArray from by apply gA;simp;omega,show vs.toArray.extract 0 (0+P.cellsOf t)=vs.toArray from by apply gA;simp;omega]at JZ
     exact JZ
    split at h
    ·refine⟨_,_,h,fin _ λc w u v hu hv=>?_⟩
     obtain⟨us,vs,rfl,rfl,hr⟩:=QK c w u v hu hv
     refine⟨_,?_,rfl⟩
     rw[Sem.run_bind,run_eqGuard_agg w _ _ _ _ _ _ he.1,Result.andThen_ok,run_eql_struct,hr];rfl
    ·refine⟨_,_,h,fin _ λc w u v hu hv=>?_⟩
     obtain⟨us,vs,rfl,rfl,hr⟩:=QK c w u v hu hv
     refine⟨_,?_,rfl⟩
     rw[Sem.run_bind,run_eqGuard_agg w _ _ _ _ _ _ he.1,Result.andThen_ok,run_neq_struct,hr];rfl
    ·exact h.elim
   ·exact h.elim
  ·exact h.elim
 case unOp op t x=>
  split at h
  ·rename_i k n hx
   refine⟨_,_,h,nd λc w a hm hA ey=>?_⟩
   have:=ey x (by simp[Op.operands])
   rw[hx]at this
   exact⟨_,by simp only[execOp,Rep.int.1 this,Op.unary,Op.intArith,Sem.run_bind,Sem.run_pure];rfl,rfl⟩
  ·rename_i k n hx
   refine⟨_,_,h,nd λc w a hm hA ey=>?_⟩
   have:=ey x (by simp[Op.operands])
   rw[hx]at this
   exact⟨_,by simp only[execOp,Rep.int.1 this,Op.unary,Op.intBits,Sem.run_bind,Sem.run_pure];rfl,rfl⟩
  ·rename_i b hx
   refine⟨_,_,h,nd λc w a hm hA ey=>?_⟩
   have:=ey x (by simp[Op.operands])
   rw[hx]at this
   exact⟨_,by simp only[execOp,Rep.bool.1 this,Op.unary,Sem.run_bind,Sem.run_pure];rfl,rfl⟩
  ·exact h.elim
 case convert s d x=>
  obtain⟨val,hK,hr⟩:=xax hT h
  refine⟨_,_,hK,nd λc w a hm hA ey=>?_⟩
  obtain⟨u,hu,hx⟩:=hr c w _ (ey x (by simp[Op.operands]))
  exact⟨u,by simp only[execOp];rw[Sem.run_bind,hu];rfl,hx⟩
 case makeSlice t l cp=>
  split at h
  ·rename_i kl n kc m hl hc
   obtain⟨row,val,hK,hr⟩:=yv (kl:=kl) (kc:=kc) hT h
   refine⟨_,_,hK,Va λc w a hm hA ey=>⟨_,rfl,?_⟩⟩
   have h1:=ey l (by simp[Op.operands]);have h2:=ey cp (by simp[Op.operands])
   rw[hl]at h1;rw[hc]at h2
   rw[Rep.int.1 h1,Rep.int.1 h2]
   exact hr c w
  ·exact h.elim
 case slice t x lo hi mx=>
  cases mx with
  |some m=>simp only at h
  |none=>
   simp only at h
   obtain⟨val,hK,hr⟩:=xS hT h
   refine⟨_,_,hK,nd λc w a hm hA ey=>?_⟩
   obtain⟨u,hu,hx⟩:=hr c w _ a.eval hm hA (ey x (by simp[Op.operands])) (λy hy=>ey y (by simp[Op.operands,hy])) (λy hy=>ey y (by simp[Op.operands,hy]))
   exact⟨u,by simp only[execOp];rw[Sem.run_bind];simp only[Option.map_none];rw[hu];rfl,hx⟩
 case fieldAddr s x f=>
  split at h
  ·rename_i o q n hf
   simp only[db]at h
   obtain⟨h0,h⟩:=h
   have h0:0<n:=lE h0
   obtain⟨fs,fd,g1,g2,g3,g4,g5⟩:=Qyw hT hf
   split at h
   ·rename_i r i off hx
    refine⟨_,_,h,nd λc w a hm hA ey=>?_⟩
    have:=ey x (by simp[Op.operands])
    rw[hx]at this
    obtain⟨row,k1,kV,k2,hv⟩:=this
    refine⟨_,by simp only[execOp,hv];rw[Sem.run_bind,Z3p g1 g2 (by simp only at g5;omega)];rfl,row,k1,kV,k2,by rw[g3,fZ]⟩
   ·rename_i sz es i off hx
    refine⟨_,_,h,nd λc w a hm hA ey=>?_⟩
    have:=ey x (by simp[Op.operands])
    rw[hx]at this
    obtain⟨b,oo,arr,ty,fz,hv,hI,hi,hh,hE⟩:=this
    refine⟨_,by simp only[execOp,hv];rw[Sem.run_bind,Z3p g1 g2 (by simp only at g5;omega)];rfl,b,oo,arr,ty,fz,by rw[g3,fZ],hI,hi,hh,hE⟩
   ·exact h.elim
  ·exact h.elim
 case field s x f=>
  split at h
  ·rename_i o q n hf
   obtain⟨fs,fd,g1,g2,g3,g4,g5⟩:=Qyw hT hf
   simp only at g4 g5
   split at h
   ·rename_i cs ti hx ht
    simp only[db,aE]at h
    obtain⟨⟨h0,hle⟩,h⟩:=h
    have h0:0<n:=lE h0
    have hle:=lE hle
    obtain⟨_,_,_,_,_,sC,_,_,_,d0,F9⟩:=DR (hT.get ht)
    have run:∀(vs:List Value) (w:World) (r:Value),(part q vs.toArray o).run P w=.ok r w->(Instr.field s (.agg vs.toArray) f).run P w=.ok r w:=λvs w r hr=>by
     simp only[Instr.field,Sem.run_bind,run_underlying g1,Result.andThen_ok,g2,asAgg,Sem.run_pure,g4,g3,hr]
    split at h
    ·rename_i Dd
     rw[D.fk]at h
     refine⟨_,_,h,nd λc w a hm hA ey=>?_⟩
     have:=ey x (by simp[Op.operands])
     rw[hx]at this
     obtain⟨vs,hv,hr⟩:=this
     have hp:=Vc (P:=P) F9 (by rw[<-MJ F9,<-sC];exact Dd) (by rw[<-g4,g5];exact h0) vs.toArray o w
     refine⟨_,by simp only[execOp,hv];rw[Sem.run_bind,run vs w _ hp];rfl,(vs.drop o).take n,?_,Zq9 hr o n⟩
     rw[<-g4,g5]
     congr 1
     simp[List.extract_toArray,List.extract_eq_take_drop]
    ·rename_i Dd
     simp only[D.cq]at h
     obtain⟨mF,h⟩:=h
     refine⟨_,_,h,nd λc w a hm hA ey=>?_⟩
     have:=ey x (by simp[Op.operands])
     rw[hx]at this
     obtain⟨vs,hv,hr⟩:=this
     have hl:=hr.length
     have iY:vs[o]?=some vs[o]:=cG (by omega)
     have hp:=Q6 (P:=P) (t:=q) F9 (by rw[<-MJ F9,<-sC];exact Dd) (xs:=vs.toArray) (o:=o) (v:=vs[o]) (by rw[aY];exact iY) w
     refine⟨_,by simp only[execOp,hv];rw[Sem.run_bind,run vs w _ hp];rfl,?_⟩
     have hc:=(Ez.1 hr).2 o _ iY
     generalize cs.getD o .dead=d at*
     cases d<;>first|exact hc|trivial|exact hc.elim
   ·exact h.elim
  ·exact h.elim
 case indexAddr t x ix=>
  split at h
  ·rename_i k n hn
   obtain⟨val,hK,hr⟩:=Zoe (k:=k) hT h
   refine⟨_,_,hK,nd λc w a hm hA ey=>?_⟩
   have h2:=ey ix (by simp[Op.operands])
   rw[hn]at h2
   obtain⟨u,hu,hx⟩:=hr c w _ hm hA (ey x (by simp[Op.operands]))
   exact⟨u,by simp only[execOp,Rep.int.1 h2];rw[Sem.run_bind,hu];rfl,hx⟩
  ·exact h.elim
 case index t x ix=>
  split at h
  ·rename_i s k n ht hx hn
   have hd:=nb hT ht
   simp only at hd
   simp only[db,decide_eq_true_eq]at h
   obtain⟨⟨h1,h2⟩,h⟩:=h
   refine⟨_,_,h,nd λc w a hm hA ey=>?_⟩
   have e1:=ey x (by simp[Op.operands]);have e2:=ey ix (by simp[Op.operands])
   rw[hx]at e1;rw[hn]at e2
   refine⟨_,?_,rfl⟩
   have cj:n.toNat<s.length:=by omega
   have hg:(ByteArray.mk s.toArray)[n.toNat]?=some (s.getD n.toNat 0):=by
    have h3:n.toNat<(ByteArray.mk s.toArray).size:=by simpa[ByteArray.size]using cj
    rw[getElem?_pos (ByteArray.mk s.toArray) n.toNat h3]
    simp only[aK,cG cj,aG]
    rfl
   simp only[execOp,Rep.str.1 e1,Rep.int.1 e2,Instr.index,asIntOf,Sem.run_bind,Sem.run_pure,Result.andThen_ok,run_underlying hd,h1,if_true,hg]
  ·rename_i len e iO _ _ _ _ _ cs k n ht hx hn
   have hd:=nb hT ht
   simp only at hd
   obtain⟨hd,ga⟩:=hd
   simp only[db,aE,decide_eq_true_eq]at h
   obtain⟨⟨q1,q2,q3,q4⟩,h⟩:=h
   have q1:=bE q1
   have q2:=bE q2
   have run:∀(vs:List Value) (v:Value) (w:World) (d:TypeDesc),P.underlying e=some d->QF d=false->vs[n.toNat]?=some v->(Instr.index t (.agg vs.toArray) (.int k n)).run P w=.ok v w:=λvs v w d hu hda hv=>by
    have h0:0<P.cellsOf e:=by omega
    simp only[Instr.index,asIntOf,Sem.run_bind,Sem.run_pure,Result.andThen_ok,run_underlying hd,Sem.run_ite,q3,q4,and_self,if_true,BE h0]
    rw[ga,q1,Nat.mul_one]
    exact Q6 hu hda (by rw[aY];exact hv) w
   have cell:∀(c:Ctx) (w:World) (a:Act),Rep c w (.agg cs) (a.eval x)->∃vs:List Value,a.eval x=.agg vs.toArray/\∃v,vs[n.toNat]?=some v/\cv c w (cs.getD n.toNat .dead) v:=λc w a hr=>by
    obtain⟨vs,hv,hr⟩:=hr
    have hl:=hr.length
    have iY:vs[n.toNat]?=some vs[n.toNat]:=cG (by omega)
    exact⟨vs,hv,_,iY,(Ez.1 hr).2 _ _ iY⟩
   split at h
   ·rename_i kk _ _ _ _ _ he
    have hu:=nb hT he
    simp only at hu
    obtain⟨h1,h⟩:=h
    refine⟨_,_,h,nd λc w a hm hA ey=>?_⟩
    have e1:=ey x (by simp[Op.operands]);have e2:=ey ix (by simp[Op.operands])
    rw[hx]at e1;rw[hn]at e2
    obtain⟨vs,hv,v,g1,g2⟩:=cell c w a e1
    have hi:=U5 h1 (n:=n.toNat) (by omega)
    rw[aX]at hi
    rw[D.kb hi]at g2
    refine⟨v,?_,?_⟩
    ·simp only[execOp,Rep.int.1 e2,hv]
     rw[Sem.run_bind,run vs v w _ hu rfl g1];rfl
    ·rw[U1 (show n.toNat<len by omega),aX]
     exact g2
   ·rename_i he
    have hu:=nb hT he
    simp only at hu
    obtain⟨h1,h⟩:=h
    refine⟨_,_,h,nd λc w a hm hA ey=>?_⟩
    have e1:=ey x (by simp[Op.operands]);have e2:=ey ix (by simp[Op.operands])
    rw[hx]at e1;rw[hn]at e2
    obtain⟨vs,hv,v,g1,g2⟩:=cell c w a e1
    have hi:=U6 h1 (n:=n.toNat) (by omega)
    rw[aX]at hi
    rw[D.kd hi]at g2
    refine⟨v,?_,?_⟩
    ·simp only[execOp,Rep.int.1 e2,hv]
     rw[Sem.run_bind,run vs v w _ hu rfl g1];rfl
    ·rw[U4 (show n.toNat<len by omega),aX]
     exact g2
   ·exact h.elim
  ·exact h.elim
 case extract x i=>
  split at h
  ·rename_i ds hx
   simp only[db,D.cq]at h
   obtain⟨hv,h⟩:=h
   refine⟨_,_,h,nd λc w a hm hA ey=>?_⟩
   have:=ey x (by simp[Op.operands])
   rw[hx]at this
   obtain⟨vs,Cc,hr⟩:=this
   have cj:i<ds.length:=by
    by_cases hl:i<ds.length
    ·exact hl
    ·rw[aK,aM (by omega)]at hv;simp[D.isVal]at hv
   obtain⟨v,hvi,hvr⟩:=ZW hr i cj
   refine⟨v,?_,?_⟩
   ·simp only[execOp,Cc,Instr.extract,aY,hvi];rfl
   ·generalize ds.getD i .dead=d at*
    cases d<;>first|exact hvr|trivial|exact hvr.elim
  ·exact h.elim
 case call cl=>
  obtain⟨callee,args,dd⟩:=cl
  cases callee<;>try(simp only at h)
  case builtin b=>
  cases b<;>try(simp only at h)
  case len=>
   split at h
   ·rename_i x t hx ht
    obtain⟨val,hK,hr⟩:=zaP (t':=type) hT h
    refine⟨_,_,hK,nd λc w a hm hA ey=>?_⟩
    have gg:args= #[x]:=by rw[<-bS (xs:=args),hx]
    have uu:dd= #[t]:=by rw[<-bS (xs:=dd),ht]
    subst gg;subst uu
    obtain⟨u,hu,hx⟩:=hr c w _ hm hA (ey x (by simp[Op.operands,Call.operands]))
    refine⟨u,?_,hx⟩
    simp only[execOp,resolve,Sem.run_bind,Sem.run_pure,Result.andThen_ok,invoke,builtin]
    have:(#[x]:Array Operand).map a.eval= #[a.eval x]:=by simp
    rw[this,hu];rfl
   ·exact h.elim
def Ctx.kill(c:Ctx)(ks:List Nat):Ctx:={c with R:=λr=>if cb r ks=true then none else(c.R r).map (Row.kill ks)}
structure jH(ks:List Nat)(c:Ctx)(w:World)(c':Ctx)(w':World):Prop where
 mem:Mem c' w'
 cf:jn (c.kill ks) w c' w'
 fr:Fr (λb=>∃r x,c.R r=some x/\¬c.V r/\c.ρ r=b) w w'
 fu:∀b,c'.I b->c.I b\/(∃s row,cb s ks=true/\c.R s=some row/\¬c.V s/\c.ρ s=b)\/w.heap.size<=b
 ov:∀r ak,c'.R r=some ak->¬c'.V r->((∃row,c.R r=some row)/\¬c.V r/\c'.ρ r=c.ρ r)\/(∃s row,cb s ks=true/\c.R s=some row/\¬c.V s/\c'.ρ r=c.ρ s)\/w.heap.size<=c'.ρ r
def kj(P:Program)(f:FuncId)(args:List D)(rows:List Row)(res:D)(aj:List Row):Prop:=
 ∀ (c:Ctx) (w:World) (vs:List Value),Mem c w->c.base=w.heap.size->(∀r,c.R r=rows[r]?)->kh c w args vs->
  Calls P f vs.toArray w λe w'=>∃v c',e=.returned v/\lW c w c' w'/\(∀r,c'.R r=aj[r]?)/\Rep c' w' res v
def GN(P:Program)(I:ag)(f:FuncId)(vs:List Value)(w:World)(R:Ending->World->Prop):Prop:=
 (f<YB->Calls P f vs.toArray w R)/\
 (YB<=f->∀l rec xs us,vs=xs++us->I l->w.heap[l]?=some (.loop rec)->QL f us rec->xs.length=1->
  RoundIn Fence.wide 0 P l rec.fn ((rec.params.zip xs.toArray).foldl (λtmps (t,a)=>tmps.setIfInBounds t a) rec.tmps) rec.assign rec.body w R)
theorem GN.mono{P:Program}{I I':ag}{f:FuncId}{vs:List Value}{w:World}{R R':Ending->World->Prop}(h:GN P I f vs w R)(hI:∀b,I' b->I b)(hR:∀e w',R e w'->R' e w'):GN P I' f vs w R':=
 ⟨λhf=>(h.1 hf).mono hR,λhf l rec xs us h1 h2 h3 h4 h5=>(h.2 hf l rec xs us h1 (hI l h2) h3 h4 h5).mono hR⟩
theorem GN.real{P:Program}{I:ag}{f:FuncId}{vs:List Value}{w:World}{R:Ending->World->Prop}(hf:f<YB)(h:Calls P f vs.toArray w R):GN P I f vs w R:=⟨λ_=>h,λhg=>absurd hf (Nat.not_lt.2 hg)⟩
def sR(P:Program)(f:FuncId)(k:Nat)(args:List D)(rows:List Row)(res:D)(aj:List Row):Prop:=
 ∀ (c:Ctx) (w:World) (vs:List Value),Mem c w->c.base=0->(∀r,c.R r=rows[r]?)->kh c w args vs->
  GN P c.I f vs w λe w'=>∃v c',e=.returned v/\jH (List.range' k (rows.length-k)) c w c' w'/\(∀r,c'.R r=aj[r]?)/\Rep c' w' res v
def kX:D->Prop|.int _ _=>True|.bool _=>True|.str _=>True|.dx=>True|.iN=>True|.emp=>True|_=>False
def CT.kX:CT->Bool|.int _=>true|.bool=>true|.str=>true|_=>false
def RK.kX(k:RK):Bool:=k.sig.all CT.kX
def ao.Ga:ao->Prop
 |.gen es=>∀e∈es,∀d∈e,kX d
 |.av k _=>k.kX=true
 |_=>True
theorem Zaj:∀{ts:List CT} {cs:List D} {j:Nat},ts.all CT.kX=true->∀d∈wv ts cs j,kX d
 |[],_,_,_,d,h=>by simp[wv]at h
 |t ::ts,cs,j,ht,d,h=>by
  simp only[List.all_cons,aE]at ht
  simp only[wv,cS]at h
  rcases h with h|h
  ·subst h
   cases t<;>first|trivial|(simp[CT.kX]at ht)
  ·exact Zaj ht.2 d h
theorem ao.Df{E:ao}(h:E.Ga):∀e∈E.l,∀d∈e,kX d:=by
 cases E with
 |gen es=>exact h
 |ints k l=>
  intro e he d hd
  simp only[ao.l,gB]at he
  obtain⟨n,_,rfl⟩:=he
  simp at hd
  subst hd;trivial
 |bu l=>
  intro e he d hd
  simp only[ao.l,gB]at he
  obtain⟨n,_,rfl⟩:=he
  simp at hd
  subst hd;trivial
 |av k l=>
  intro e he d hd
  simp only[ao.l,gB]at he
  obtain⟨x,_,rfl⟩:=he
  rw[<-RK.oq]at hd
  exact Zaj h d hd
def QM:D->Prop
 |.sl _ es fr=>(es.Nil\/fr=true)/\es.Ga
 |.iv _ _ _ _=>False
 |.gn _ _=>False
 |_=>True
def MN:List D->Prop
 |[]=>True
 |d::ds=>QM d/\MN ds
def Vd:D->Prop
 |.agg cs=>MN cs
 |d=>QM d
def Gb:List D->Prop
 |[]=>True
 |d::ds=>Vd d/\Gb ds
def FF:D->Prop
 |.du ds=>Gb ds
 |d=>Vd d
def J0(row:Row):Prop:=if row.box then∀e∈row.es.l,MN e else row.es.Ga
def rL:List Row->Prop
 |[]=>True
 |r::l=>J0 r/\rL l
structure bn(P:Program)(x:bc):Prop where
 enters:x.f<YB->∀args w,(callFunc x.f args).run P w=.ok (.enter x.f args) w
 real:x.gone=none->x.f<YB
 ok:x.gone=none->∀args rows res aj,x.m args rows=.ok res aj->kj P x.f args rows res aj/\(x.flat=true->FF res/\rL aj)
 when:x.gone=none->∀args rows p res aj,x.m args rows=.when p res aj->p->kj P x.f args rows res aj/\(x.flat=true->FF res/\rL aj)
 abs:x.gone=none->∀args rows α v res aj,x.m args rows=.abs α v res aj->kj P x.f args rows (res v) (aj v)/\(x.flat=true->FF (res v)/\rL (aj v))
 lV:x.gone=none->∀args rows p α v res aj,x.m args rows=.lV p α v res aj->p->kj P x.f args rows (res v) (aj v)/\(x.flat=true->FF (res v)/\rL (aj v))
 QC:∀k,x.gone=some k->∀args rows α v res aj,x.m args rows=.abs α v res aj->sR P x.f k args rows (res v) (aj v)
 HK:∀k,x.gone=some k->∀args rows p α v res aj,x.m args rows=.lV p α v res aj->p->sR P x.f k args rows (res v) (aj v)
def jZ(P:Program)(G:List bc):Prop:=∀x∈G,bn P x
theorem Gx{P:Program}:∀{G:List bc} {f:FuncId} {x:bc},jZ P G->oZ G f=some x->bn P x/\x.f=f
 |[],f,x,_,h=>by simp[oZ]at h
 |y ::l,f,x,hG,h=>by
  simp only[oZ]at h
  split at h
  ·rename_i hb
   simp at h;subst h
   exact⟨hG y (by simp),bE hb⟩
  ·exact Gx (λz hz=>hG z (by simp[hz])) h
theorem Zn0:∀{rows:List Row} {i:Nat} {row:Row},rL rows->rows[i]?=some row->J0 row
 |r::l,0,row,h,hi=>by simp at hi;subst hi;exact h.1
 |r::l,i+1,row,h,hi=>Zn0 h.2 (by simpa using hi)
 |[],i,row,_,hi=>by simp at hi
theorem oz{r:Nat}:∀{l:List Nat},cb r l=true↔r∈l
 |[]=>by simp[cb]
 |x ::l=>by
  simp only[cb]
  cases hb:Nat.beq x r with
  |true=>have:=bE hb;subst this;simp
  |false=>
   have gr:¬r=x:=λe=>by rw[e]at hb;simp at hb
   simp[oz (l:=l),gr]
theorem MD:∀{l m:List Nat},pM l m=true↔ ∀r∈l,r∈m
 |[],m=>by simp[pM]
 |x::l,m=>by
  simp only[pM]
  cases hb:cb x m with
  |true=>simp[MD (l:=l),oz.1 hb]
  |false=>simp[show¬x∈m fromλe=>by rw[oz.2 e]at hb;cases hb]
theorem UM:∀{l m:List Nat},nV l m=true↔ ∀r∈l,¬r∈m
 |[],m=>by simp[nV]
 |x::l,m=>by
  simp only[nV]
  cases hb:cb x m with
  |true=>simp[oz.1 hb]
  |false=>simp[UM (l:=l),show¬x∈m fromλe=>by rw[oz.2 e]at hb;cases hb]
theorem ME:∀{l:List Nat},EB l=true↔l.Nodup
 |[]=>by simp[EB]
 |x::l=>by
  simp only[EB,List.nodup_cons]
  cases hb:cb x l with
  |true=>simp[oz.1 hb]
  |false=>simp[ME (l:=l),show¬x∈l fromλe=>by rw[oz.2 e]at hb;cases hb]
theorem Znz{r:Nat}:∀{l:List Nat} {k:Nat},r∈l->∃j,pos r l k=k+j/\l[j]?=some r
 |x ::l,k,h=>by
  simp only[pos]
  cases hb:Nat.beq x r with
  |true=>exact⟨0,rfl,by simp[bE hb]⟩
  |false=>
   have gr:¬r=x:=λe=>by rw[e]at hb;simp at hb
   have hm:r∈l:=by simpa[gr]using h
   obtain⟨j,h1,h2⟩:=Znz (k:=k+1) hm
   exact⟨j+1,by show pos r l (k+1)=_;rw[h1];omega,by simpa using h2⟩
theorem BB{r:Nat}{l:List Nat}(h:r∈l):l[pos r l 0]?=some r:=by
 obtain⟨j,h1,h2⟩:=Znz (k:=0) h
 rw[h1,aX];exact h2
structure Ey(S:Nat->Prop)(f:Nat->Nat)(bf:Bool)(c1 c2:Ctx):Prop where
 row:∀i row,S i->c1.R i=some row->∃ak,c2.R (f i)=some ak/\ak.box=row.box/\ak.ty=row.ty/\ak.sz=row.sz/\ak.es.l.length=row.es.l.length/\c2.ρ (f i)=c1.ρ i/\(c2.V (f i)↔c1.V i)
 base:bf=true->c2.base<=c1.base
 top:c1.top<=c2.top
theorem yR{I I':ag}{w:World}{d:D}{v:Value}(hs:kX d)(h:gb I w d v):gb I' w d v:=by
 cases h<;>first|exact hs.elim|constructor
theorem Z9{I I':ag}{w:World}:∀{cs:List D} {arr:Array Value} {off:Nat},(∀d∈cs,kX d)->nX I w cs arr off->nX I' w cs arr off
 |[],_,_,_,_=>by simp[BU,Aw]
 |d::cs,arr,off,hs,h=>by
  simp only[BU,Aw]at h⊢
  obtain⟨⟨v,hv,hp⟩,hr⟩:=h
  exact⟨⟨v,hv,yR (hs d (by simp)) hp⟩,Z9 (λe he=>hs e (by simp[he])) hr⟩
theorem Qy0{I I':ag}{w:World}:∀{es:List (List D)} {arr:Array Value} {off sz:Nat},(∀e∈es,∀d∈e,kX d)->iL I w es arr off sz->iL I' w es arr off sz
 |[],_,_,_,_,_=>by simp[pV,oy]
 |e::es,arr,off,sz,hs,h=>by
  simp only[pV,oy]at h⊢
  exact⟨h.1,Z9 (hs e (by simp)) h.2.1,Qy0 (λf hf=>hs f (by simp[hf])) h.2.2⟩
theorem VRep.EW{c:Ctx}{w:World}{d:D}{v:Value}(h:cv c w d v):VRep c w d v:=by cases d<;>first|exact h|exact h.elim
theorem VRep.toC{c:Ctx}{w:World}{d:D}{v:Value}(hd:∀cs,d≠.agg cs)(h:VRep c w d v):cv c w d v:=by cases d<;>first|exact h|exact absurd rfl (hd _)
theorem Rep.KQ{c:Ctx}{w:World}{d:D}{v:Value}(h:VRep c w d v):Rep c w d v:=by cases d<;>first|exact h|exact h.elim|trivial
theorem Rep.toV{c:Ctx}{w:World}{d:D}{v:Value}(hd:∀ds,d≠.du ds)(h0:d≠.dead)(h:Rep c w d v):VRep c w d v:=by cases d<;>first|exact h|exact absurd rfl (hd _)|exact absurd rfl h0
theorem Z54{f:Nat->Nat}{bf:Bool}:∀{e:List D},(D.mL f bf e).length=e.length
 |[]=>rfl
 |d::l=>by simp[D.mL,Z54 (e:=l)]
section
variable {S:Nat->Prop} {f:Nat->Nat} {bf:Bool} {c1 c2:Ctx} {w:World} (hn:Ey S f bf c1 c2) {flat:Prop} (hI:(∀b,c1.I b->c2.I b)\/(flat/\∀b,c1.I b->c1.base<=b->c2.I b))
include hn hI
theorem Zge{d:D}{v:Value}(gr:∀f cs,d≠.gn f cs)(hS:∀r∈nU d,S r)(jU:flat->QM d)(h:cv c1 w d v):cv c2 w (d.mK f bf) v:=by
 cases d with
 |sl sz es fr=>
  obtain⟨a,cap,hv,hc,ij⟩:=h
  refine⟨a,cap,hv,hc,?_⟩
  rcases ij with ij|⟨b,off,arr,ty,fz,ha,iK,hf,hh,hE⟩
  ·exact .inl ij
  ·have hb:(fr&&bf)=true->c2.base<=b:=λe=>by
    simp only[aE]at e
    exact Nat.le_trans (hn.base e.2) (hf e.1)
   rcases hI with hi|⟨Gc,hi⟩
   ·exact .inr ⟨b,off,arr,ty,fz,ha,hi b iK,hb,hh,ot (λb hb=>⟨hi b hb,rfl⟩) _ _ _ _ hE⟩
   ·obtain⟨h1,h2⟩:=jU Gc
    rcases h1 with h1|h1
    ·exact .inl (ao.oC.1 h1)
    ·exact .inr ⟨b,off,arr,ty,fz,ha,hi b iK (hf h1),hb,hh,Qy0 (ao.Df h2) hE⟩
 |all r=>
  obtain⟨row,hr,hb,h⟩:=h
  obtain⟨ak,g1,g2,g3,g4,g5,g6,gV⟩:=hn.row r row (hS r (by simp[nU])) hr
  refine⟨ak,g1,g2.trans hb,?_⟩
  rcases h with⟨hV,hv⟩|⟨hV,cap,arr,hv,h1,h2,h3,h4⟩
  ·obtain⟨a,hv,ho⟩:=hv;exact .inl ⟨gV.2 hV,a,hv,ho.mono hn.top⟩
  ·exact .inr ⟨λe=>hV (gV.1 e),cap,arr,by rw[hv,g5,g6],by rw[g5];exact h1,h2,by rw[g6,g3];exact h3,by rw[g4];exact h4⟩
 |own r o n=>
  obtain⟨row,hr,hb,ho,h⟩:=h
  obtain⟨ak,g1,g2,g3,g4,g5,g6,gV⟩:=hn.row r row (hS r (by simp[nU])) hr
  refine⟨ak,g1,g2.trans hb,by rw[g5];exact ho,?_⟩
  rcases h with⟨h0,a,hv,jg⟩|⟨hV,cap,arr,h1,h2,h3,h4,h5⟩
  ·exact .inl ⟨h0,a,hv,jg.mono hn.top gV g6⟩
  ·exact .inr ⟨λe=>hV (gV.1 e),cap,arr,h1,h2,by rw[g6,g3];exact h3,by rw[g4,g6];exact h4,by rw[g4];exact h5⟩
 |ptr r i off=>
  obtain⟨row,hr,hV,hi,hv⟩:=h
  obtain⟨ak,g1,g2,g3,g4,g5,g6,gV⟩:=hn.row r row (hS r (by simp[nU])) hr
  exact⟨ak,g1,λe=>hV (gV.1 e),by rw[g5];exact hi,by rw[hv,g6,g4]⟩
 |pa r i off len k n=>
  obtain⟨cj,row,hr,hV,hi,hv⟩:=h
  obtain⟨ak,g1,g2,g3,g4,g5,g6,gV⟩:=hn.row r row (hS r (by simp[nU])) hr
  exact⟨cj,ak,g1,λe=>hV (gV.1 e),by rw[g5];exact hi,by rw[hv,g6,g4]⟩
 |iv sz es i off=>
  obtain⟨b,o,arr,ty,fz,hv,iK,iJ,hh,hE⟩:=h
  rcases hI with hi|⟨Gc,hi⟩
  ·exact⟨b,o,arr,ty,fz,hv,hi b iK,iJ,hh,ot (λb hb=>⟨hi b hb,rfl⟩) _ _ _ _ hE⟩
  ·exact(jU Gc).elim
 |c9 r=>
  rcases h with h|⟨row,hr,hV,hi,hv⟩
  ·exact .inl h
  ·obtain⟨ak,g1,g2,g3,g4,g5,g6,gV⟩:=hn.row r row (hS r (by simp[nU])) hr
   exact .inr ⟨ak,g1,λe=>hV (gV.1 e),by rw[g5];exact hi,by rw[hv,g6,g4]⟩
 |gn f cs=>exact absurd rfl (gr f cs)
 |emp=>obtain⟨a,hv,ho⟩:=h;exact⟨a,hv,ho.mono hn.top⟩
 |_=>exact h
theorem Zca{d:D}{v:Value}(hS:∀r∈nU d,S r)(jU:flat->QM d)(h:cv c1 w d v):cv c2 w (d.mK f bf) v:=by
 by_cases e:∃g cs,d=.gn g cs
 ·obtain⟨g,cs,rfl⟩:=e
  obtain⟨us,hv,hu⟩:=h
  have hi:∀b,c1.I b->c2.I b/\w.heap[b]?=w.heap[b]? :=by
   rcases hI with hi|⟨Gc,_⟩
   ·exactλb hb=>⟨hi b hb,rfl⟩
   ·exact(jU Gc).elim
  exact⟨us,MI hi hv,ZP (Fk:=λ_=>True) (λd v h1 h2 h3=>Zge hn (flat:=False) (.inl λb hb=>(hi b hb).1) h1 h2 (λe=>e.elim) h3) (λ_ _ _ _=>MI hi) (λ_ _ _=>trivial) hS hu⟩
 ·exact Zge hn hI (λf cs e'=>e ⟨f,cs,e'⟩) hS jU h
theorem Zm:∀{ds:List D} {vs:List Value},(∀r∈re ds,S r)->(flat->MN ds)->jr c1 w ds vs->jr c2 w (D.mL f bf ds) vs
 |[],[],_,_,_=>trivial
 |d::ds,v::vs,hS,jU,h=>⟨Zca hn hI (λr hr=>hS r (by simp[re,hr])) (λe=>(jU e).1) h.1,Zm (λr hr=>hS r (by simp[re,hr])) (λe=>(jU e).2) h.2⟩
 |[],_::_,_,_,h=>h.elim
 |_::_,[],_,_,h=>h.elim
theorem Z2{d:D}{v:Value}(hS:∀r∈FY d,S r)(jU:flat->Vd d)(h:VRep c1 w d v):VRep c2 w (d.ji f bf) v:=by
 cases d with
 |agg cs=>obtain⟨vs,hv,hr⟩:=h;exact⟨vs,hv,Zm hn hI hS jU hr⟩
 |du ds=>exact h.elim
 |_=>
  refine VRep.EW (Zca hn hI ?_ ?_ (VRep.toC ?_ h))
  ·exact hS
  ·exact jU
  ·intro cs e;cases e
theorem Zml:∀{ds:List D} {vs:List Value},(∀d∈ds,∀r∈FY d,S r)->(flat->Gb ds)->kh c1 w ds vs->kh c2 w (D.Bg f bf ds) vs
 |[],[],_,_,_=>trivial
 |d::ds,v::vs,hS,jU,h=>⟨Z2 hn hI (hS d (by simp)) (λe=>(jU e).1) h.1,Zml (λd hd=>hS d (by simp[hd])) (λe=>(jU e).2) h.2⟩
 |[],_::_,_,_,h=>h.elim
 |_::_,[],_,_,h=>h.elim
theorem ZH{d:D}{v:Value}(hS:∀r,S r)(jU:flat->FF d)(h:Rep c1 w d v):Rep c2 w (d.tj f bf) v:=by
 cases d with
 |du ds=>obtain⟨vs,hv,hr⟩:=h;exact⟨vs,hv,Zml hn hI (λ_ _ r _=>hS r) jU hr⟩
 |agg cs=>exact Z2 hn hI (d:=.agg cs) (λr _=>hS r) jU h
 |dead=>trivial
 |_=>
  have h':=Rep.toV (λds e=>by cases e) (λe=>by cases e) h
  have h2:=Z2 hn hI (λr _=>hS r) (λe=>by have:=jU e;exact this) h'
  exact Rep.KQ h2
theorem Ve:∀{ds:List D} {arr:Array Value} {off:Nat},(∀r∈re ds,S r)->(flat->MN ds)->kO c1 w ds arr off->kO c2 w (D.mL f bf ds) arr off
 |[],_,_,_,_,_=>trivial
 |d::ds,arr,off,hS,jU,⟨⟨v,hv,h1⟩,h2⟩=>⟨⟨v,hv,Zca hn hI (λr hr=>hS r (by simp[re,hr])) (λe=>(jU e).1) h1⟩,Ve (λr hr=>hS r (by simp[re,hr])) (λe=>(jU e).2) h2⟩
theorem ZF{i j:Nat}{row:Row}(QG:c2.ρ j=c1.ρ i)(hV:c2.V j↔c1.V i)(hS:row.box=true->∀e,row.es=.gen [e]->∀r∈re e,S r)(jU:flat->J0 row)(h:EZ c1 w i row):EZ c2 w j (row.ji f bf):=by
 have sh:(row.ji f bf).box=row.box/\(row.ji f bf).ty=row.ty/\(row.ji f bf).sz=row.sz:=by
  unfold Row.ji;split<;>exact⟨rfl,rfl,rfl⟩
 rcases h with⟨h0,h1,h2,h3⟩|⟨h0,arr,ha,hs,hx⟩
 ·refine .inl ⟨hV.2 h0,?_⟩
  unfold Row.ji
  split
  ·simp at h1
  ·exact⟨h1,h2,h3⟩
 ·refine .inr ⟨λe=>h0 (hV.1 e),arr,by rw[QG,sh.2.1];exact ha,by rw[sh.2.2];exact hs,?_⟩
  rw[sh.1,sh.2.2]
  split
  ·rename_i hb
   simp only[hb,if_true]at hx
   obtain⟨e,k1,k2,k3,k4⟩:=hx
   obtain⟨box,ty,sz,es⟩:=row
   simp only at hb k1 k2 k3 k4
   subst hb;subst k1
   refine⟨D.mL f bf e,rfl,?_,k3,Ve hn hI (hS rfl e rfl) (λe'=>?_) k4⟩
   ·rw[Z54];exact k2
   ·have:=jU e'
    simp only[J0,if_true]at this
    exact this e (by simp[ao.l])
  ·rename_i hb
   simp only[hb,aN,if_false]at hx
   have he:(row.ji f bf).es=row.es:=by
    unfold Row.ji
    split
    ·simp at hb
    ·rfl
   rw[he]
   rcases hI with hi|⟨Gc,hi⟩
   ·exact ot (λb hb=>⟨hi b hb,rfl⟩) _ _ _ _ hx
   ·have:=jU Gc
    simp only[J0,hb,aN,if_false]at this
    exact Qy0 (ao.Df this) hx
end
def Ctx.pass(c:Ctx)(w:World)(ids:List Nat)(rows:List Row)(len:Bool):Ctx:=
 { ρ:=λi=>match ids[i]? with|some r=>c.ρ r|none=>0,R:=λi=>rows[i]?,V:=λi=>match ids[i]? with|some r=>c.V r|none=>False,
   I:=λb=>c.I b\/(len=true/\ ∃r row,c.R r=some row/\ ¬c.V r/\row.box=false/\r∉ids/\c.ρ r=b),base:=w.heap.size,top:=c.top,X:=λ_=>False}
section
variable {c:Ctx} {w:World} {R:Rows} {ids:List Nat} {ea:List Row} {len:Bool}
theorem Zmh(hm:Mem c w)(hA:mO c R){d d':D}{v:Value}(h:FX R d=some d')(hl:nU d≠[]->len=true)(hd:∀r∈nU d,r∉ids)(hr:cv c w d v):cv (c.pass w ids ea len) w d' v:=by
 have nM:∀b,c.I b->(c.pass w ids ea len).I b/\w.heap[b]?=w.heap[b]? :=λb hb=>⟨.inl hb,rfl⟩
 cases d<;>simp only[FX]at h<;>try(cases h;done)
 case bool b=>cases h;exact hr
 case int k n=>cases h;exact hr
 case str s=>cases h;exact hr
 case iN=>cases h;exact hr
 case jL=>cases h;exact hr
 case dx=>cases h;exact⟨none,0,hr,aO _,.inl rfl⟩
 case emp=>cases h;obtain⟨a,hv,_⟩:=hr;exact⟨a,0,hv,aO _,.inl rfl⟩
 case sl sz es fr=>
  cases h
  obtain⟨a,cap,hv,hc,ij⟩:=hr
  refine⟨a,cap,hv,hc,?_⟩
  rcases ij with ij|⟨b,off,arr,ty,fz,ha,hI,hf,hh,hE⟩
  ·exact .inl ij
  ·exact .inr ⟨b,off,arr,ty,fz,ha,.inl hI,by simp,hh,ot nM _ _ _ _ hE⟩
 case all r=>
  split at h
  ·rename_i row hR
   split at h
   ·rename_i hb
    cases h
    obtain⟨ak,g1,g2,hv⟩:=hr
    have:=hA r ak _ g1 hR
    subst this
    rcases hv with⟨hV,a,hv,_⟩|⟨hV,cap,arr,hv,g3,g4,g5,g6⟩
    ·have he:=(hm.ou g1 hV).2.1
     exact⟨a,0,by rw[he];exact hv,by rw[he];exact aO _,.inl he⟩
    refine⟨_,cap,hv,g3,?_⟩
    obtain⟨iP,jE,hs,hx⟩:=hm.real g1 hV
    rw[g5]at jE;cases jE
    simp only[hb,aN,if_false]at hx
    exact .inr ⟨_,0,arr,_,_,rfl,.inr ⟨hl (by simp[nU]),r,_,g1,hV,hb,hd r (by simp[nU]),rfl⟩,by simp,g5,ot nM _ _ _ _ hx⟩
   ·cases h
  ·cases h
 case own r o n=>
  split at h
  ·rename_i row hR
   split at h
   ·rename_i hb
    cases h
    obtain⟨ak,g1,g2,g5,hv⟩:=hr
    have:=hA r ak _ g1 hR
    subst this
    have hlen:((ak.es.drop o).take n).l.length=n:=by rw[ao.jb,ao.kq];simp only[List.length_take,List.length_drop];omega
    rcases hv with⟨g7,a,hv,_⟩|⟨hV,cap,arr,g3,g4,g6,hv,g7⟩
    ·subst g7
     exact⟨a,0,by rw[hlen];exact hv,by omega,.inl (by rw[ao.jb];simp)⟩
    obtain⟨iP,jE,hs,hx⟩:=hm.real g1 hV
    rw[g6]at jE;cases jE
    simp only[hb,aN,if_false]at hx
    refine⟨_,cap,by rw[hlen];exact hv,by omega,.inr ⟨_,o*ak.sz,arr,_,_,rfl,.inr ⟨hl (by simp[nU]),r,_,g1,hV,hb,hd r (by simp[nU]),rfl⟩,by simp,g6,ot nM _ _ _ _ ?_⟩⟩
    have:=Mz (n:=n) (KM (l:=o) hx)
    rw[ao.jb,ao.kq]
    simpa using this
   ·cases h
  ·cases h
theorem Zly(hm:Mem c w)(hA:mO c R):∀{ds oA:List D} {vs:List Value},JV R ds=some oA->(re ds≠[]->len=true)->(∀r∈re ds,r∉ids)->jr c w ds vs->jr (c.pass w ids ea len) w oA vs
 |[],oA,[],h,_,_,_=>by simp[JV]at h;subst h;trivial
 |[],_,_::_,_,_,_,hr=>hr.elim
 |_::_,_,[],_,_,_,hr=>hr.elim
 |d ::ds,oA,v::vs,h,hl,hd,hr=>by
  simp only[JV]at h
  split at h
  ·rename_i x xs h1 h2
   cases h
   exact⟨Zmh hm hA h1 (λe=>hl (by simp[re,e])) (λr e=>hd r (by simp[re,e])) hr.1,Zly hm hA h2 (λe=>hl (by simp[re,e])) (λr e=>hd r (by simp[re,e])) hr.2⟩
  ·cases h
theorem Zo4(hm:Mem c w)(hA:mO c R){d d':D}{v:Value}(h:conv R d=some d')(hl:FY d≠[]->len=true)(hd:∀r∈FY d,r∉ids)(hr:Rep c w d v):VRep (c.pass w ids ea len) w d' v:=by
 cases d with
 |agg cs=>
  simp only[conv,Option.map_eq_some_iff]at h
  obtain⟨rW,h1,rfl⟩:=h
  obtain⟨vs,hv,hx⟩:=hr
  exact⟨vs,hv,Zly hm hA h1 hl hd hx⟩
 |du ds=>simp[conv,FX]at h
 |dead=>simp[conv,FX]at h
 |_=>
  simp only[conv]at h
  simp only[Rep,VRep]at hr
  exact VRep.EW (Zmh hm hA h hl hd hr)
theorem FW{f:Nat->Nat}:∀{ids:List Nat} {rows:List Row},BA R f ids=some rows->rows.length=ids.length/\∀(i r:Nat),ids[i]?=some r->∃row,R.getD r none=some row/\rows[i]?=some (row.ji f false)
 |[],rows,h=>by simp[BA]at h;subst h;exact⟨rfl,λi r h=>by simp at h⟩
 |r ::l,rows,h=>by
  simp only[BA]at h
  split at h
  ·rename_i row rs h1 h2
   cases h
   obtain⟨g1,g2⟩:=FW h2
   refine⟨by simp[g1],λi q hq=>?_⟩
   cases i with
   |zero=>simp at hq;subst hq;exact⟨row,h1,rfl⟩
   |succ i=>exact g2 i q (by simpa using hq)
  ·cases h
theorem JT(f:Nat->Nat)(bf:Bool)(row:Row):(row.ji f bf).box=row.box/\(row.ji f bf).ty=row.ty/\(row.ji f bf).sz=row.sz/\(row.ji f bf).es.l.length=row.es.l.length:=by
 unfold Row.ji;split<;>exact⟨rfl,rfl,rfl,rfl⟩
theorem Z1v{r:Nat}:∀{l:List Nat},r∈CZ R l↔ ∃q∈l,∃ty sz e,R.getD q none=some ⟨true,ty,sz,.gen [e]⟩/\r∈re e
 |[]=>by simp[CZ]
 |q ::l=>by
  simp only[CZ,List.mem_append,Z1v (l:=l),cS]
  constructor
  ·rintro(h|⟨q',h1,h2⟩)
   ·split at h
    ·rename_i ty sz e he
     exact⟨q,.inl rfl,ty,sz,e,he,h⟩
    ·simp at h
   ·exact⟨q',.inr h1,h2⟩
  ·rintro⟨q',h1|h1,ty,sz,e,h2,h3⟩
   ·subst h1
    left
    rw[h2];exact h3
   ·exact .inr ⟨q',h1,ty,sz,e,h2,h3⟩
theorem UR(hR:∀r row,r∈ids->R.getD r none=some row->c.R r=some row)(cw:BA R (λr=>pos r ids 0) ids=some ea):Ey (λr=>r∈ids) (λr=>pos r ids 0) false c (c.pass w ids ea len):=by
 obtain⟨hl,hg⟩:=FW cw
 refine⟨λr row hr cg=>?_,(λh=>by cases h),aO _⟩
 have hp:=BB hr
 obtain⟨j7,h1,h2⟩:=hg _ r hp
 have:row=j7:=by have:=hR r j7 hr h1;rw[cg]at this;exact Option.some.inj this
 subst this
 obtain⟨s1,s2,s3,s4⟩:=JT (λr=>pos r ids 0) false row
 exact⟨_,h2,s1,s2,s3,s4,by simp[Ctx.pass,hp],by simp[Ctx.pass,hp]⟩
theorem ZG(hm:Mem c w)(hR:∀r row,r∈ids->R.getD r none=some row->c.R r=some row)(lr:ids.Nodup)(gm:∀r∈CZ R ids,r∈ids)(cw:BA R (λr=>pos r ids 0) ids=some ea):Mem (c.pass w ids ea len) w:=by
 have hn:=UR (len:=len) (w:=w) hR cw
 obtain⟨hl,hg⟩:=FW cw
 have inv:∀i x,(c.pass w ids ea len).R i=some x->∃r row,ids[i]?=some r/\c.R r=some row/\R.getD r none=some row/\x=row.ji (λr=>pos r ids 0) false/\(c.pass w ids ea len).ρ i=c.ρ r/\((c.pass w ids ea len).V i↔c.V r):=by
  intro i x hx
  have jG:ea[i]?=some x:=hx
  have cj:=(List.getElem?_eq_some_iff.1 jG).1
  have hi:ids[i]?=some ids[i]:=cG (by omega)
  obtain⟨row,h1,h2⟩:=hg i _ hi
  rw[jG]at h2
  exact⟨_,row,hi,hR _ row (fX hi) h1,h1,Option.some.inj h2,by simp[Ctx.pass,hi],by simp[Ctx.pass,hi]⟩
 refine⟨λi x hx=>?_,λi j x y hx hy v1 v2 he=>?_,λb hb=>?_,hm.top,hm.kR.mono λb hb=>⟨.inl hb,rfl⟩⟩
 ·obtain⟨r,row,g1,g2,g3,rfl,g5,g6⟩:=inv i x hx
  refine ZF hn (flat:=False) (.inl λb hb=>.inl hb) g5 g6 (λpB e he q hq=>?_) (λe=>e.elim) (hm.row r row g2)
  obtain⟨box,ty,sz,es⟩:=row
  simp only at pB he
  subst pB
  have h1:∃e0,es=.gen [e0]:=by
   rcases hm.row r _ g2 with⟨_,hh,_⟩|⟨_,arr,_,_,hx⟩
   ·cases hh
   ·simp only[if_true]at hx;obtain⟨e0,h,_⟩:=hx;exact⟨e0,h⟩
  obtain⟨e0,rfl⟩:=h1
  cases he
  exact gm q (Z1v.2 ⟨r,fX g1,ty,sz,e,g3,hq⟩)
 ·obtain⟨r,row,g1,g2,g3,_,g5,g6⟩:=inv i x hx
  obtain⟨s,ak,k1,k2,k3,_,k5,k6⟩:=inv j y hy
  rw[g5,k5]at he
  have:r=s:=hm.inj r s _ _ g2 k2 (λe=>v1 (g6.2 e)) (λe=>v2 (k6.2 e)) he
  subst this
  exact(List.getElem?_inj (List.getElem?_eq_some_iff.1 g1).1 lr).1 (g1.trans k1.symm)
 ·rcases hb with hb|⟨_,r,row,hr,hV,w7,IV,rfl⟩
  ·refine⟨(hm.fu b hb).1,λi x hx v=>?_⟩
   obtain⟨r,row,g1,g2,g3,_,g5,g6⟩:=inv i x hx
   rw[g5];exact(hm.fu b hb).2 r row g2 (λe=>v (g6.2 e))
  ·refine⟨hm.lt hr hV,λi x hx v=>?_⟩
   obtain⟨s,ak,g1,g2,g3,_,g5,g6⟩:=inv i x hx
   rw[g5]
   intro e
   have:=hm.inj s r _ _ g2 hr (λe=>v (g6.2 e)) hV e
   subst this
   exact IV (fX g1)
theorem MF(hm:Mem c w)(hA:mO c R)(hn:Ey (λr=>r∈ids) (λr=>pos r ids 0) false c (c.pass w ids ea len)){ρ:Operand->Value}{ev:Operand->D}:
 ∀{bs:List Bool} {xs:List Operand} {oA:List D},te R (λr=>pos r ids 0) bs (xs.map ev)=some oA->(lU bs (xs.map ev)≠[]->len=true)->(∀r∈lU bs (xs.map ev),r∉ids)->(∀r∈Dg bs (xs.map ev),r∈ids)->(∀x∈xs,Rep c w (ev x) (ρ x))->kh (c.pass w ids ea len) w oA (xs.map ρ)
 |bs,[],oA,h,_,_,_,_=>by cases bs<;>(try(rename_i b bs;cases b))<;>(simp[te]at h;subst h;trivial)
 |true::bs,x::xs,oA,h,hl,hd,hi,hr=>by
  simp only[fT,te]at h
  simp only[fT,lU,Dg]at hl hd hi
  split at h
  ·rename_i ys hv h2
   cases h
   have hx:VRep c w (ev x) (ρ x):=Rep.toV (λds e=>by rw[e]at hv;simp[D.isVal]at hv) (λe=>by rw[e]at hv;simp[D.isVal]at hv) (hr x (by simp))
   exact⟨Z2 hn (flat:=False) (.inl λb hb=>.inl hb) (λr e=>hi r (by simp[e])) (λe=>e.elim) hx,MF hm hA hn h2 hl hd (λr e=>hi r (by simp[e])) λy hy=>hr y (by simp[hy])⟩
  ·cases h
 |false::bs,x::xs,oA,h,hl,hd,hi,hr=>by
  simp only[fT,te]at h
  simp only[fT,lU,Dg]at hl hd hi
  split at h
  ·rename_i y ys h1 h2
   cases h
   exact⟨Zo4 hm hA h1 (λe=>hl (by simp[e])) (λr e=>hd r (by simp[e])) (hr x (by simp)),MF hm hA hn h2 (λe=>hl (by simp[e])) (λr e=>hd r (by simp[e])) hi λy hy=>hr y (by simp[hy])⟩
  ·cases h
 |[],x::xs,oA,h,hl,hd,hi,hr=>by
  simp only[fT,te]at h
  simp only[fT,lU,Dg]at hl hd hi
  split at h
  ·rename_i y ys h1 h2
   cases h
   refine⟨Zo4 hm hA h1 (λe=>hl (by simp[e])) (λr e=>hd r (by simp[e])) (hr x (by simp)),MF hm hA hn h2 (λe=>hl (by simp[e])) (λr e=>hd r (by simp[e])) (λr e=>?_) λy hy=>hr y (by simp[hy])⟩
   cases xs<;>simp[Dg]at e
  ·cases h
end
theorem Vf{f:Nat->Nat}:∀{ids:List Nat} {rows:List Row} {R:Rows},ids.Nodup->ids.length<=rows.length->(∀r∈ids,r<R.length)->
 (tX f ids rows R).length=R.length/\(∀(i r:Nat),ids[i]?=some r->∃row,rows[i]?=some row/\(tX f ids rows R).getD r none=some (row.ji f true))/\∀r,r∉ids->(tX f ids rows R).getD r none=R.getD r none
 |[],rows,R,_,_,_=>by
  have:tX f [] rows R=R:=by cases rows<;>rfl
  rw[this]
  exact⟨rfl,λi r h=>by simp at h,λ_ _=>rfl⟩
 |r::ids,[],R,_,hl,_=>by simp at hl
 |r ::ids,row::rows,R,lr,hl,cj=>by
  obtain⟨IV,JS⟩:=List.nodup_cons.1 lr
  obtain⟨g1,g2,g3⟩:=Vf (f:=f) (ids:=ids) (rows:=rows) (R:=R.set r (some (row.ji f true))) JS (by simpa using hl) (λq hq=>by simpa using cj q (by simp[hq]))
  have hr:=cj r (by simp)
  have ZB:(R.set r (some (row.ji f true))).getD r none=some (row.ji f true):=by simp[aK,hr]
  have gr:∀q,q≠r->(R.set r (some (row.ji f true))).getD q none=R.getD q none:=λq hq=>by simp[aK,List.getElem?_set_ne (Ne.symm hq)]
  simp only[tX]
  refine⟨by simpa using g1,λi q hq=>?_,λq hq=>?_⟩
  ·cases i with
   |zero=>
    simp at hq;subst hq
    exact⟨row,rfl,by rw[g3 _ IV];exact ZB⟩
   |succ i=>simpa using g2 i q (by simpa using hq)
  ·have h1:q≠r:=λe=>hq (by simp[e])
   rw[g3 q (λe=>hq (by simp[e])),gr q h1]
def Ctx.behind(c:Ctx)(w:World)(c':Ctx)(ids:List Nat)(n0:Nat)(R2:Rows):Ctx:=
 { ρ:=λr=>if n0<=r/\r<R2.length then c'.ρ (ids.length+(r-n0)) else c.ρ r,
   R:=λr=>if r∈ids\/(n0<=r/\r<R2.length) then R2.getD r none else c.R r,
   V:=λr=>if n0<=r/\r<R2.length then c'.V (ids.length+(r-n0)) else c.V r,
   I:=λb=>c.I b\/(c'.I b/\w.heap.size<=b),base:=c.base,top:=c'.top,X:=c.X}
theorem Zku{f:Nat->Nat}{rows:List Row}{i:Nat}:(BF f rows)[i]?=rows[i]?.map λrow=>some (row.ji f true):=by simp[BF]
theorem Z56{c c':Ctx}{w w':World}{R:Rows}{ids:List Nat}{ea aj:List Row}{len:Bool}(hm:Mem c w)(hb:c.base<=w.heap.size)(oc:∀r row,r∈ids->R.getD r none=some row->c.R r=some row)(fi:∀r,R.length<=r->r<R.length+(aj.length-ids.length)->c.R r=none)
 (lr:ids.Nodup) (cw:BA R (λr=>pos r ids 0) ids=some ea) (hle:ids.length<=aj.length) (hx:lW (c.pass w ids ea len) w c' w') (j4:∀i,c'.R i=aj[i]?)
 (hI:len=true->rL aj) {R2:Rows} (uR:R2=tX (bk ids R.length) ids aj R++BF (bk ids R.length) (aj.drop ids.length)):
 (Ey (λ_=>True) (bk ids R.length) true c' (c.behind w c' ids R.length R2))/\((∀b,c'.I b->(c.behind w c' ids R.length R2).I b)\/(len=true/\∀b,c'.I b->c'.base<=b->(c.behind w c' ids R.length R2).I b))/\
 Mem (c.behind w c' ids R.length R2) w'/\jn c w (c.behind w c' ids R.length R2) w'/\Fr (λb=>∃r x,c.R r=some x/\¬c.V r/\r∈ids/\c.ρ r=b) w w'/\
 (∀b,(c.behind w c' ids R.length R2).I b->c.I b\/w.heap.size<=b)/\
 (∀r,R.length<=r->r<R2.length->¬(c.behind w c' ids R.length R2).V r->w.heap.size<=(c.behind w c' ids R.length R2).ρ r):=by
 obtain⟨gm,Ba⟩:=FW cw
 have cj:∀r∈ids,r<R.length:=λr hr=>by
  obtain⟨row,h1,_⟩:=Ba _ r (BB hr)
  by_cases hl:r<R.length
  ·exact hl
  ·rw[aK,aM (by omega)]at h1;cases h1
 obtain⟨k1,k2,k3⟩:=Vf (f:=bk ids R.length) lr hle cj
 have wy:R2.length=R.length+(aj.length-ids.length):=by rw[uR];simp[k1,BF]
 have QB:∀r,r<R.length->R2.getD r none=(tX (bk ids R.length) ids aj R).getD r none:=λr hr=>by
  rw[uR,aK,aK,aZ (by omega)]
 have ZE:∀i,ids.length<=i->i<aj.length->R2.getD (R.length+(i-ids.length)) none=aj[i]?.map λrow=>row.ji (bk ids R.length) true:=λi h1 h2=>by
  rw[uR,aK,List.getElem?_append_right (by omega),Zku,k1,show R.length+(i-ids.length)-R.length=i-ids.length by omega,fK,show ids.length+(i-ids.length)=i by omega]
  rw[cG h2];rfl
 have jm:c'.base=w.heap.size:=hx.cf.base
 have jC:∀i r ak,ids[i]?=some r->c'.R i=some ak->∃row,c.R r=some row/\ak.box=row.box/\ak.ty=row.ty/\ak.sz=row.sz/\ak.es.l.length=row.es.l.length/\c'.ρ i=c.ρ r/\(c'.V i↔c.V r)/\r<R.length/\R2.getD r none=some (ak.ji (bk ids R.length) true)/\bk ids R.length i=r/\
  (¬c.V r->∀arr,w.heap[c.ρ r]?=some (.cells arr row.ty (0,0))->∃iP,w'.heap[c.ρ r]?=some (.cells iP row.ty (0,0))/\iP.size=arr.size):=by
  intro i r ak hi jq
  obtain⟨row,h1,h2⟩:=Ba i r hi
  have kH:=fX hi
  have h3:=oc r row kH h1
  obtain⟨oE,g1,g2,g3,g4,g5,g6,gV,g7⟩:=hx.cf.R i _ (show(c.pass w ids ea len).R i=some _ from h2)
  rw[jq]at g1;cases g1
  obtain⟨s1,s2,s3,s4⟩:=JT (λr=>pos r ids 0) false row
  obtain⟨lh,q1,q2⟩:=k2 i r hi
  rw[j4,q1]at jq;cases jq
  refine⟨row,h3,g2.trans s1,g3.trans s2,g4.trans s3,g5.trans s4,by simpa[Ctx.pass,hi]using g6,by simpa[Ctx.pass,hi]using gV,cj r kH,by rw[QB r (cj r kH)];exact q2,by simp[bk,hi],λnv arr ha=>?_⟩
  have:=g7 (by simpa[Ctx.pass,hi]using nv) arr (by simpa[Ctx.pass,hi,s2]using ha)
  simpa[Ctx.pass,hi,s2]using this
 have fresh:∀i ak,ids.length<=i->c'.R i=some ak->i<aj.length/\R2.getD (R.length+(i-ids.length)) none=some (ak.ji (bk ids R.length) true)/\bk ids R.length i=R.length+(i-ids.length)/\(¬c'.V i->w.heap.size<=c'.ρ i):=by
  intro i ak hi jq
  have h1:aj[i]?=some ak:=by rw[<-j4];exact jq
  have h2:=(List.getElem?_eq_some_iff.1 h1).1
  refine⟨h2,by rw[ZE i hi h2,h1];rfl,by simp[bk,aM hi],λnv=>?_⟩
  rcases hx.ov i ak jq nv with⟨⟨x,nQ⟩,_⟩|h3
  ·have:ea[i]?=some x:=nQ
   rw[aM (by omega)]at this;cases this
  ·exact h3
 have CX:Ey (λ_=>True) (bk ids R.length) true c' (c.behind w c' ids R.length R2):=by
  refine⟨λi ak _ jq=>?_,λ_=>by rw[jm];exact hb,aO _⟩
  obtain⟨s1,s2,s3,s4⟩:=JT (bk ids R.length) true ak
  by_cases hi:i<ids.length
  ·have iJ:ids[i]?=some ids[i]:=cG hi
   obtain⟨row,g1,g2,g3,g4,g5,g6,g7,g8,g9,g10,_⟩:=jC i _ ak iJ jq
   rw[g10]
   exact⟨_,by simp only[Ctx.behind];rw[if_pos (.inl (fX iJ))];exact g9,s1,s2,s3,s4,by simp only[Ctx.behind];rw[if_neg (by omega),g6],by simp only[Ctx.behind];rw[if_neg (by omega)];exact g7.symm⟩
  ·obtain⟨h1,h2,h3,h4⟩:=fresh i ak (by omega) jq
   rw[h3]
   have hc:R.length<=R.length+(i-ids.length)/\R.length+(i-ids.length)<R2.length:=by omega
   have he:ids.length+(R.length+(i-ids.length)-R.length)=i:=by omega
   exact⟨_,by simp only[Ctx.behind];rw[if_pos (.inr hc)];exact h2,s1,s2,s3,s4,by simp only[Ctx.behind];rw[if_pos hc,he],by simp only[Ctx.behind];rw[if_pos hc,he]⟩
 have Dh:(∀b,c'.I b->(c.behind w c' ids R.length R2).I b)\/(len=true/\∀b,c'.I b->c'.base<=b->(c.behind w c' ids R.length R2).I b):=by
  cases hl:len with
  |false=>
   refine .inl λb iK=>?_
   rcases hx.fu b iK with h1|h1
   ·rcases h1 with h1|⟨h1,_⟩
    ·exact .inl h1
    ·rw[hl]at h1;cases h1
   ·exact .inr ⟨iK,h1⟩
  |true=>exact .inr ⟨rfl,λb iK hbb=>.inr ⟨iK,by omega⟩⟩
 have Ci:Fr (λb=>∃r x,c.R r=some x/\¬c.V r/\r∈ids/\c.ρ r=b) w w':=hx.fr.mono λb _ ⟨i,x,h1,h2,h3⟩=>by
  have pw:ea[i]?=some x:=h1
  have hi:i<ids.length:=by have:=(List.getElem?_eq_some_iff.1 pw).1;omega
  have iJ:ids[i]?=some ids[i]:=cG hi
  obtain⟨row,g1,g2⟩:=Ba i _ iJ
  exact⟨_,row,oc _ row (fX iJ) g1,by simpa[Ctx.pass,iJ]using h2,fX iJ,by simpa[Ctx.pass,iJ]using h3⟩
 have inv:∀r x,(c.behind w c' ids R.length R2).R r=some x->(∃i ak,c'.R i=some ak/\x=ak.ji (bk ids R.length) true/\(c.behind w c' ids R.length R2).ρ r=c'.ρ i/\((c.behind w c' ids R.length R2).V r↔c'.V i)/\(r∈ids/\ids[i]?=some r/\(c.behind w c' ids R.length R2).ρ r=c.ρ r/\((c.behind w c' ids R.length R2).V r↔c.V r)\/R.length<=r/\ids.length<=i/\r=R.length+(i-ids.length)))\/
  (c.R r=some x/\r∉ids/\(c.behind w c' ids R.length R2).ρ r=c.ρ r/\((c.behind w c' ids R.length R2).V r↔c.V r)/\¬(R.length<=r/\r<R2.length)):=by
  intro r x jG
  by_cases kH:r∈ids
  ·left
   have hp:=BB kH
   obtain⟨lh,q1,q2⟩:=k2 _ r hp
   have rH:c'.R (pos r ids 0)=some lh:=by rw[j4];exact q1
   obtain⟨row,g1,g2,g3,g4,g5,g6,g7,g8,g9,g10,_⟩:=jC _ r lh hp rH
   simp only[Ctx.behind]at jG
   rw[if_pos (.inl kH),g9]at jG
   cases jG
   have e1:(c.behind w c' ids R.length R2).ρ r=c.ρ r:=by simp only[Ctx.behind];rw[if_neg (by omega)]
   have e2:(c.behind w c' ids R.length R2).V r↔c.V r:=by simp only[Ctx.behind];rw[if_neg (by omega)]
   exact⟨_,lh,rH,rfl,by rw[e1,g6],by rw[e2,g7],.inl ⟨kH,hp,e1,e2⟩⟩
  ·by_cases hc:R.length<=r/\r<R2.length
   ·left
    have hi:ids.length+(r-R.length)<aj.length:=by omega
    have rH:c'.R (ids.length+(r-R.length))=some aj[ids.length+(r-R.length)]:=by rw[j4];exact cG hi
    obtain⟨h1,h2,h3,h4⟩:=fresh _ _ (by omega) rH
    simp only[Ctx.behind]at jG
    rw[if_pos (.inr hc)]at jG
    rw[show R.length+(ids.length+(r-R.length)-ids.length)=r by omega]at h2
    rw[h2]at jG
    cases jG
    exact⟨_,_,rH,rfl,by simp only[Ctx.behind];rw[if_pos hc],by simp only[Ctx.behind];rw[if_pos hc],.inr ⟨hc.1,by omega,by omega⟩⟩
   ·right
    simp only[Ctx.behind]at jG
    rw[if_neg (by rintro(h|h)<;>contradiction)]at jG
    exact⟨jG,kH,by simp only[Ctx.behind];rw[if_neg hc],by simp only[Ctx.behind];rw[if_neg hc],hc⟩
 have rb:jn c w (c.behind w c' ids R.length R2) w':=by
  refine⟨rfl,hx.cf.top,λb iK=>⟨.inl iK,?_⟩,λr row hr=>?_⟩
  ·exact(hx.cf.I b (.inl iK)).2
  ·by_cases kH:r∈ids
   ·have hp:=BB kH
    obtain⟨lh,q1,q2⟩:=k2 _ r hp
    have rH:c'.R (pos r ids 0)=some lh:=by rw[j4];exact q1
    obtain⟨j7,g1,g2,g3,g4,g5,g6,g7,g8,g9,g10,g11⟩:=jC _ r lh hp rH
    rw[hr]at g1;cases g1
    obtain⟨s1,s2,s3,s4⟩:=JT (bk ids R.length) true lh
    exact⟨_,by simp only[Ctx.behind];rw[if_pos (.inl kH)];exact g9,s1.trans g2,s2.trans g3,s3.trans g4,s4.trans g5,by simp only[Ctx.behind];rw[if_neg (by omega)],by simp only[Ctx.behind];rw[if_neg (by omega)],g11⟩
   ·have hc:¬(R.length<=r/\r<R2.length):=λhc=>by rw[fi r hc.1 (by omega)]at hr;cases hr
    refine⟨row,by simp only[Ctx.behind];rw[if_neg (by rintro(h|h)<;>contradiction)];exact hr,rfl,rfl,rfl,rfl,by simp only[Ctx.behind];rw[if_neg hc],by simp only[Ctx.behind];rw[if_neg hc],λnv arr ha=>⟨arr,?_,rfl⟩⟩
    rw[Ci.heap _ (hm.lt hr nv) fun⟨s,x,h1,h2,h3,h4⟩=>kH (by rw[<-hm.inj s r x row h1 hr h2 nv h4];exact h3)]
    exact ha
 refine⟨CX,Dh,⟨λr x jG=>?_,λr s x y hr hs v1 v2 he=>?_,λb iK=>?_,hx.mem.top,hm.kR.mono rb.I⟩,rb,Ci,λb iK=>?_,λr h1 h2 h3=>?_⟩
 ·rcases inv r x jG with⟨i,ak,h1,rfl,h3,h4,_⟩|⟨h1,h2,h3,h4,h5⟩
  ·refine ZF CX Dh h3 h4 (λ_ _ _ _ _=>trivial) (λhf=>?_) (hx.mem.row i ak h1)
   exact Zn0 (hI hf) (by rw[<-j4];exact h1)
  ·exact ue rb h3 h4 (λnv=>Ci.heap _ (hm.lt h1 nv) fun⟨s,x',g1,g2,g3,g4⟩=>h2 (by rw[<-hm.inj s r x' x g1 h1 g2 nv g4];exact g3)) (hm.row r x h1)
 ·have HP:∀i ak,c'.R i=some ak->¬c'.V i->(∃q,q∈ids/\ids[i]?=some q/\(∃y,c.R q=some y)/\¬c.V q/\c'.ρ i=c.ρ q)\/w.heap.size<=c'.ρ i:=λi ak h1 nv=>by
   by_cases hi:i<ids.length
   ·have iJ:ids[i]?=some ids[i]:=cG hi
    obtain⟨row,g1,g2,g3,g4,g5,g6,g7,_⟩:=jC i _ ak iJ h1
    exact .inl ⟨_,fX iJ,iJ,⟨row,g1⟩,λe=>nv (g7.2 e),g6⟩
   ·exact .inr ((fresh i ak (by omega) h1).2.2.2 nv)
  rcases inv r x hr with⟨i,x',h1,_,h3,h4,h5⟩|⟨h1,h2,h3,h4,h5⟩<;>rcases inv s y hs with⟨j,y',g1,_,g3,g4,g5⟩|⟨g1,g2,g3,g4,g5⟩
  ·have:i=j:=hx.mem.inj i j x' y' h1 g1 (λe=>v1 (h4.2 e)) (λe=>v2 (g4.2 e)) (by rw[<-h3,<-g3];exact he)
   subst this
   rcases h5 with⟨_,q1,_⟩|⟨_,q1,q2⟩<;>rcases g5 with⟨_,p1,_⟩|⟨_,p1,p2⟩
   ·rw[q1]at p1;exact Option.some.inj p1
   ·have:=(List.getElem?_eq_some_iff.1 q1).1;omega
   ·have:=(List.getElem?_eq_some_iff.1 p1).1;omega
   ·omega
  ·exfalso
   have nv:=λe=>v1 (h4.2 e)
   have ns:=λe=>v2 (g4.2 e)
   rw[h3,g3]at he
   rcases HP i x' h1 nv with⟨q,q1,q2,⟨z,q3⟩,q4,q5⟩|q
   ·exact g2 (by rw[<-hm.inj q s z y q3 g1 q4 ns (by rw[<-q5];exact he)];exact q1)
   ·have:=hm.lt g1 ns;omega
  ·exfalso
   have nv:=λe=>v2 (g4.2 e)
   have ns:=λe=>v1 (h4.2 e)
   rw[h3,g3]at he
   rcases HP j y' g1 nv with⟨q,q1,q2,⟨z,q3⟩,q4,q5⟩|q
   ·exact h2 (by rw[<-hm.inj q r z x q3 h1 q4 ns (by rw[<-q5];exact he.symm)];exact q1)
   ·have:=hm.lt h1 ns;omega
  ·exact hm.inj r s x y h1 g1 (λe=>v1 (h4.2 e)) (λe=>v2 (g4.2 e)) (by rw[<-h3,<-g3];exact he)
 ·rcases iK with iK|⟨iK,pS⟩
  ·refine⟨Nat.lt_of_lt_of_le (hm.fu b iK).1 Ci.size,λr x hr v=>?_⟩
   rcases inv r x hr with⟨i,x',h1,_,h3,h4,h5⟩|⟨h1,h2,h3,h4,h5⟩
   ·have:=(hx.mem.fu b ((hx.cf.I b (.inl iK)).1)).2 i x' h1 (λe=>v (h4.2 e))
    rw[h3];exact this
   ·rw[h3];exact(hm.fu b iK).2 r x h1 (λe=>v (h4.2 e))
  ·refine⟨(hx.mem.fu b iK).1,λr x hr v=>?_⟩
   rcases inv r x hr with⟨i,x',h1,_,h3,h4,h5⟩|⟨h1,h2,h3,h4,h5⟩
   ·rw[h3];exact(hx.mem.fu b iK).2 i x' h1 (λe=>v (h4.2 e))
   ·have:=hm.lt h1 (λe=>v (h4.2 e))
    rw[h3];omega
 ·rcases iK with h|⟨_,h⟩
  ·exact .inl h
  ·exact .inr h
 ·have hi:ids.length+(r-R.length)<aj.length:=by omega
  have rH:c'.R (ids.length+(r-R.length))=some aj[ids.length+(r-R.length)]:=by rw[j4];exact cG hi
  obtain⟨_,_,_,h4⟩:=fresh _ _ (by omega) rH
  simp only[Ctx.behind,if_pos (show R.length<=r/\r<R2.length from⟨h1,h2⟩)]at h3⊢
  exact h4 h3
theorem ZM(args:List D):Dg [] args=[]:=by cases args<;>rfl
theorem Zh6(R:Rows)(args:List D):mJ R [] args=[]:=by
 unfold mJ;rw[ZM];rfl
theorem ZI{P:Program}{x:bc}(dz:bn P x){f:FuncId}(hf:x.f=f)(hy:x.f<YB){dst:Option Tmp}{args:Array Operand}{dd:Array TypeId}{type:TypeId}{pos:String}{after:Array Edge}{guard:Option (Nat×Bool)}{a:Act}{w:World}{K:Act->World->Prop}{Q:Exit->Act->World->Prop}
 (h:Calls P x.f (args.toList.map a.eval).toArray w λe w'=>∃v,e=.returned v/\K (a.put dst v) w'):(⟨dst,.call ⟨.value (.func f),args,dd⟩,type,pos,after,guard⟩:Oper).ny P a w K Q:=by
 have ig:(execOp a.eval (⟨dst,.call ⟨.value (.func f),args,dd⟩,type,pos,after,guard⟩:Oper)).run P w=.ok (.enter f (args.toList.map a.eval).toArray) w:=by
  simp only[execOp,resolve,Act.eval,Deferred.ofValue,Sem.run_bind,Sem.run_pure,Result.andThen_ok,invoke,Array.empty_append,Array.append_empty]
  rw[<-hf,dz.enters hy,<-bR,bS]
 unfold Oper.ny
 rw[ig]
 show Calls P f _ w _
 rw[<-hf]
 exact h
theorem vR {P:Program}{G:List bc}(hG:jZ P G){dst:Option Tmp}{f:FuncId}{args:Array Operand}{dd:Array TypeId}{type:TypeId}{pos':String}{after:Array Edge}{guard:Option (Nat×Bool)}{ev:Operand->D}{R:Rows}{K:D->Rows->Prop}
    (lY:pr G f=none) (h:tl G f (args.toList.map ev) R K): ∃val R' x,K val R'/\oZ G f=some x/\EY P ⟨dst, .call ⟨.value (.func f),args,dd⟩,type,pos',after,guard⟩ ev R val R'/\(x.refs=[]->pT P ⟨dst, .call ⟨.value (.func f),args,dd⟩,type,pos',after,guard⟩ ev R val R'):=by
  unfold tl at h
  split at h
  . rename_i x hx
    have wD:x.gone=none:=by simpa [pr,hx] using lY
    obtain⟨dz,hf⟩:=Gx hG hx
    split at h
    . rename_i az ea has iU
      simp only[db,Bool.or_eq_true,aE]at h
      obtain⟨⟨⟨Gc,h1,h2⟩,h3,h4⟩,h⟩:=h
      generalize JU:mJ R x.refs (args.toList.map ev)=ids at*
      have uS:=MD.1 h1
      have gm:=MD.1 h2
      have lr:=ME.1 h3
      have oL:=UM.1 h4
      have main : ∀res aj,ids.length<=aj.length->K (res.tj (bk ids R.length) true) (tX (bk ids R.length) ids aj R++BF (bk ids R.length) (aj.drop ids.length))->kj P x.f az ea res aj->(x.flat=true->FF res/\rL aj)->
          ∃val R' y,K val R'/\oZ G f=some y/\EY P ⟨dst, .call ⟨.value (.func f),args,dd⟩,type,pos',after,guard⟩ ev R val R'/\(y.refs=[]->pT P ⟨dst, .call ⟨.value (.func f),args,dd⟩,type,pos',after,guard⟩ ev R val R'):=by
        intro res aj hle hK hA jU
        let len:=match lU x.refs (args.toList.map ev) with|[]=>false|_=>true
        have hlen:lU x.refs (args.toList.map ev)≠[]->len=true:=by
          intro gr
          show(match lU x.refs (args.toList.map ev) with|[]=>false|_=>true)=true
          split
          . contradiction
          . rfl
        have Ad:len=true->x.flat=true:=by
          intro hl
          rcases Gc with h|h
          . exact h.1
          . exfalso
            have hl:(match lU x.refs (args.toList.map ev) with|[]=>false|_=>true)=true:=hl
            split at h
            . rename_i e;rw[e]at hl;cases hl
            . cases h
        have core: ∀(c:Ctx) (w:World) (a:Act),Mem c w->c.base<=w.heap.size->mO c R->(∀r row,r∈ids->R.getD r none=some row->c.R r=some row)->(∀r,R.length<=r->r<R.length+(aj.length-ids.length)->c.R r=none)->(∀y∈args.toList,Rep c w (ev y) (a.eval y))->
            ∀(K':Act->World->Prop) (Q:Exit->Act->World->Prop),(∀v w' c',lW (c.pass w ids ea len) w c' w'->(∀i,c'.R i=aj[i]?)->Rep (c.behind w c' ids R.length (tX (bk ids R.length) ids aj R++BF (bk ids R.length) (aj.drop ids.length))) w' (res.tj (bk ids R.length) true) v->K' (a.put dst v) w')->
            (⟨dst, .call ⟨.value (.func f),args,dd⟩,type,pos',after,guard⟩:Oper).ny P a w K' Q:=by
          intro c w a hm hb pq oc fi ey K' Q ry
          have hn:=UR (len:=len) (w:=w) oc iU
          have gg:=MF (len:=len) (ρ:=a.eval) hm pq hn has hlen oL uS ey
          have mz:=hA (c.pass w ids ea len) w _ (ZG hm oc lr gm iU) rfl (λr=>rfl) gg
          refine ZI dz hf (dz.real wD) (mz.mono λe w' ta=> ?_)
          obtain⟨v,c',he,nL,j4,kW⟩:=ta
          obtain⟨g1,g2,_⟩:=Z56 hm hb oc fi lr iU hle nL j4 (λe=>(jU (Ad e)).2) rfl
          exact⟨v,he,ry v w' c' nL j4 (ZH g1 g2 (λ_=>trivial) (λe=>(jU (Ad e)).1) kW)⟩
        have gy: ∀(c:Ctx) (w:World) (a:Act),(∀y∈(⟨dst, .call ⟨.value (.func f),args,dd⟩,type,pos',after,guard⟩:Oper).op.operands,Rep c w (ev y) (a.eval y))-> ∀y∈args.toList,Rep c w (ev y) (a.eval y):=λc w a ey y hy=>ey y (by simp [Op.operands,Call.operands];exact .inr (by simpa using hy))
        refine⟨_,_,x,hK,hx,λc w a hm hb hR ey K' Q ry=> ?_,λhrefs=> ?_⟩
        . have pq:mO c R:=λr row ak g1 g2=>by rw[hR,g2]at g1;exact(Option.some.inj g1).symm
          have oc: ∀r row,r∈ids->R.getD r none=some row->c.R r=some row:=λr row _ e=>by rw[hR];exact e
          have fi: ∀r,R.length<=r->r<R.length+(aj.length-ids.length)->c.R r=none:=λr e _=>by rw[hR,aK,aM e];rfl
          refine core c w a hm hb pq oc fi (gy c w a ey) K' Q λv w' c' nL j4 kW=> ?_
          obtain⟨g1,g2,g3,g4,g5,g6,g7⟩:=Z56 hm hb oc fi lr iU hle nL j4 (λe=>(jU (Ad e)).2) rfl
          have wy:(tX (bk ids R.length) ids aj R).length=R.length:=(Vf lr hle (λr hr=>by
            obtain⟨row,q1,_⟩:=(FW iU).2 _ r (BB hr)
            by_cases hl:r<R.length
            . exact hl
            . rw[aK,aM (by omega)]at q1;cases q1)).1
          have iY:=Vf (f:=bk ids R.length) lr hle (λr hr=>by
            obtain⟨row,q1,_⟩:=(FW iU).2 _ r (BB hr)
            by_cases hl:r<R.length
            . exact hl
            . rw[aK,aM (by omega)]at q1;cases q1)
          refine ry v w' _ ⟨g3,g4,g5.mono λb _ ⟨r,y,k1,k2,_,k4⟩=>⟨r,y,k1,k2,k4⟩,g6,λr ak hr hv=> ?_⟩ (λr=> ?_) kW
          . by_cases hc:R.length<=r/\r<(tX (bk ids R.length) ids aj R++BF (bk ids R.length) (aj.drop ids.length)).length
            . exact .inr (g7 r hc.1 hc.2 hv)
            . left
              simp only[Ctx.behind,if_neg hc]at hv⊢
              refine⟨?_,hv,trivial⟩
              simp only[Ctx.behind]at hr
              split at hr
              . rename_i HQ
                rcases HQ with HQ|HQ
                . obtain⟨row,q1,_⟩:=(FW iU).2 _ r (BB HQ)
                  exact⟨row,oc r row HQ q1⟩
                . contradiction
              . exact⟨_,hr⟩
          . simp only[Ctx.behind]
            split
            . rfl
            . rename_i HQ
              have h1:r∉ids:=λe=>HQ (.inl e)
              by_cases cj:r<R.length
              . rw[aK,aZ (by omega),<-aK,iY.2.2 r h1,hR]
              . rw[hR,aK,aM (by omega),aK,aM (by
                  by_cases h2:r<(tX (bk ids R.length) ids aj R++BF (bk ids R.length) (aj.drop ids.length)).length
                  . exact(HQ (.inr ⟨by omega,h2⟩)).elim
                  . omega)]
        . have QN:ids=[]:=by rw[<-JU,hrefs];exact Zh6 R _
          subst QN
          have rA:tX (bk [] R.length) [] aj R=R:=by cases aj<;>rfl
          rw[rA]
          simp only[dJ,gC]at*
          refine⟨⟨_,rfl⟩,λc w a hm hb pq fi ey K' Q ry=> ?_⟩
          have oc: ∀r row,r∈([]:List Nat)->R.getD r none=some row->c.R r=some row:=λr row e=>by cases e
          have HR: ∀r,R.length<=r->r<R.length+(aj.length-0)->c.R r=none:=λr e1 e2=>fi r e1 (by simp [BF];omega)
          refine core c w a hm hb pq oc HR (gy c w a ey) K' Q λv w' c' nL j4 kW=> ?_
          obtain⟨g1,g2,g3,g4,g5,g6,g7⟩:=Z56 hm hb oc HR lr iU hle nL j4 (λe=>(jU (Ad e)).2) rfl
          rw[rA]at g3 g4 g6 g7 kW
          simp only[dJ,gC]at g3 g4 g6 g7 kW
          refine ry v w' _ ⟨g3,g4,g5.mono (λb _ ⟨r,y,k1,k2,k3,k4⟩=>(by cases k3)),g6,λr=> ?_,λr hr=> ?_,λr k1 k2=>g7 r k1 k2⟩ kW
          . simp [Ctx.behind]
          . simp only[Ctx.behind]
            rw[if_neg (by omega),if_neg (by omega)]
            exact⟨rfl,Iff.rfl⟩
      split at h
      . rename_i res aj hm
        simp only[EC,db,D.cq,nz]at h
        obtain⟨h5,h6⟩:=dz.ok wD _ _ _ _ hm
        exact main res aj (lE h.1) h.2 h5 h6
      . rename_i p res aj hm
        simp only[EC,db,D.cq,nz]at h
        obtain⟨h5,h6⟩:=dz.when wD _ _ _ _ _ hm h.1
        exact main res aj (lE h.2.1) h.2.2 h5 h6
      . rename_i α v res aj hm
        have h:=h v rfl
        simp only[EC,db,D.cq,nz]at h
        obtain⟨h5,h6⟩:=dz.abs wD _ _ _ _ _ _ hm
        exact main (res v) (aj v) (lE h.1) h.2 h5 h6
      . rename_i p α v res aj hm
        obtain⟨hp,h⟩:=h
        have h:=h v rfl
        simp only[EC,db,D.cq,nz]at h
        obtain⟨h5,h6⟩:=dz.lV wD _ _ _ _ _ _ _ hm hp
        exact main (res v) (aj v) (lE h.1) h.2 h5 h6
      . exact h.elim
    . exact h.elim
  . exact h.elim
theorem Zae{f:Nat->Nat}:∀{ds:List D},Vg ds=true->D.mL f true ds=ds
 |[],_=>rfl
 |d ::l,h=>by
  simp only[Vg]at h
  split at h
  ·rename_i hd
   simp only[D.mL,Zae h]
   cases d<;>first|(simp[QO]at hd;done)|simp[D.mK]
  ·cases h
theorem Zhl{f:Nat->Nat}{d:D}(h:tn d=true):d.ji f true=d:=by
 cases d with
 |agg cs=>show D.agg (D.mL f true cs)=_;rw[Zae h]
 |_=>first|(simp[tn,QO]at h;done)|simp[D.ji,D.mK]
theorem Z9i{f:Nat->Nat}:∀{ds:List D},Vh ds=true->D.Bg f true ds=ds
 |[],_=>rfl
 |d ::l,h=>by
  simp only[Vh]at h
  split at h
  ·rename_i hd
   simp only[D.Bg,Z9i h,Zhl hd]
  ·cases h
theorem Zpg{f:Nat->Nat}{d:D}(h:uV d=true):d.tj f true=d:=by
 cases d with
 |du ds=>show D.du (D.Bg f true ds)=_;rw[Z9i h]
 |agg cs=>exact Zhl (d:=.agg cs) h
 |_=>first|(simp[uV,tn,QO]at h;done)|simp[D.tj,D.ji,D.mK]
theorem ZL{R:Rows}(f g:Nat->Nat):∀{ds:List D},te R f [] ds=te R g [] ds
 |[]=>rfl
 |d::l=>by simp only[te,ZL f g (ds:=l)]
theorem qS{G:List bc}{f:FuncId}{args:List D}{R:Rows}{K:D->Rows->Prop}(h:KR G f args R K):tl G f args R K:=by
 unfold KR at h
 split at h
 ·rename_i x hx
  split at h
  ·rename_i hrefs
   split at h
   ·rename_i az has
    simp only[db]at h
    have hv:∀{res:D} {aj:List Row},MO R res aj K->EC R [] res aj K:=by
     intro res aj h
     have rA:tX (bk [] R.length) [] aj R=R:=by cases aj<;>rfl
     simp only[EC,db,dJ,gC,rA]
     refine⟨by simp,?_⟩
     unfold MO at h
     split at h
     ·simp only[db,D.cq]at h
      rw[Zpg h.1]
      simp only[D.cq,nz,BF,List.map_nil,List.append_nil]
      exact h.2
     ·exact h
    unfold tl
    simp only[hx,hrefs,Zh6]
    rw[ZL _ (λr=>r),has]
    simp only[BA,db,ZM]
    refine⟨?_,?_⟩
    ·have:∀l:List Nat,nV l []=true:=λl=>by
      rw[UM];intro r _ hr;cases hr
     simp only[pM,CZ,EB,this,Bool.and_true]
     have h1:=h.1
     revert h1
     cases lU [] args<;>simp[Di]
    ·revert h
     cases x.m az []with
     |no=>exactλh=>h.2
     |ok res aj=>exactλh=>hv h.2
     |«when»p res aj=>exactλh=>⟨h.2.1,hv h.2.2⟩
     |abs α v res aj=>exactλh X hX=>hv (h.2 X hX)
     |lV p α v res aj=>exactλh=>⟨h.2.1,λX hX=>hv (h.2.2 X hX)⟩
   ·exact h.elim
  ·exact h
 ·exact h.elim
theorem WN{P:Program}{G:List bc}(hG:jZ P G){dst:Option Tmp}{f:FuncId}{args:Array Operand}{dd:Array TypeId}{type:TypeId}{pos':String}{after:Array Edge}{guard:Option (Nat×Bool)}{ev:Operand->D}{R:Rows}{K:D->Rows->Prop}
 (lY:pr G f=none) (h:KR G f (args.toList.map ev) R K):∃val R' x,K val R'/\oZ G f=some x/\EY P ⟨dst,.call ⟨.value (.func f),args,dd⟩,type,pos',after,guard⟩ ev R val R'/\(x.refs=[]->pT P ⟨dst,.call ⟨.value (.func f),args,dd⟩,type,pos',after,guard⟩ ev R val R'):=
 vR hG lY (qS h)
