import Derived.Test.YthjfindbamdacaaGreatDoorAuditAcceptsFp
open List renaming getD->aK,getElem?_eq_none->aM,getElem?_append_left->aZ,getElem?_take->aU,getElem?_drop->fS,getElem?_eq_getElem->cG,getElem?_toArray->aY,map_cons->fQ,map_toArray->bR,mem_cons->cS,mem_map->fZ,mem_of_getElem?->fV,length_nil->dJ,drop_zero->gA
open Nat renaming le_refl->aO,zero_add->aX,add_assoc->fX
open Option renaming getD_some->aG
open Bool renaming false_eq_true->aN
open Array renaming toArray_toList->bS,extract_eq_self_of_le->fY
set_option linter.all false
namespace Go.GD
open Go
variable {G:List bf}{I I':ag}{K:Act->World->Prop}{P:Program}{Q:Exit->Act->World->Prop}{a:Act}{after:Array Edge}{args:Array Operand}{d d' val:D}{dst:Option Tmp}{ev:Operand->D}{i:Nat}{pos':String}{row:Row}{type:TypeId}{dh:Array TypeId}{v:Value}{vs:List Value}{w w':World}
structure KM(c:Ctx)(w:World)(R R':Rows)(c':Ctx)(w':World):Prop where
 mem:Mem c' w'
 cg:jn c w c' w'
 fr:Fr (λ_=>False) w w'
 fu:∀b,c'.I b->c.I b\/w.heap.size<=b
 rows:∀r,c'.R r=if R.length<=r/\r<R'.length then R'.getD r none else c.R r
 jE:∀r,r<R.length\/R'.length<=r->c'.ρ r=c.ρ r/\(c'.V r↔c.V r)
 new:∀r,R.length<=r->r<R'.length->¬c'.V r->w.heap.size<=c'.ρ r
structure lY(c:Ctx)(w:World)(c':Ctx)(w':World):Prop where
 mem:Mem c' w'
 cg:jn c w c' w'
 fr:Fr (λb=>∃r x,c.R r=some x/\¬c.V r/\c.ρ r=b) w w'
 fu:∀b,c'.I b->c.I b\/w.heap.size<=b
 oy:∀r ao,c'.R r=some ao->¬c'.V r->((∃row,c.R r=some row)/\¬c.V r/\c'.ρ r=c.ρ r)\/w.heap.size<=c'.ρ r
def QQ(P:Program)(o:Oper)(a:Act)(next:Act->World->Prop):Result Next->Prop
 |.ok (.value v) w'=>next (a.put o.dst v) w'
 |.ok .skip w'=>next (a.put o.dst undef) w'
 |.ok (.enter f args) w'=>Calls P f args w' λe HJ=>∃v,e=.returned v/\next (a.put o.dst v) HJ
 |.ok (.round l f tmps assign body) w'=>RoundIn Fence.wide 0 P l f tmps assign body w' λe HJ=>∃v,e=.returned v/\next (a.put o.dst v) HJ
 |_=>False
def _root_.Go.Oper.nw(P:Program)(o:Oper)(a:Act)(w:World)(next:Act->World->Prop)(_:Exit->Act->World->Prop):Prop:=QQ P o a next ((execOp a.eval o).run P w)
theorem Qk{o:Oper}{u:Value}(h:(execOp a.eval o).run P w=.ok (.value u) w')(hK:K (a.put o.dst u) w'):o.nw P a w K Q:=by
 unfold Oper.nw;rw[h];exact hK
theorem qS{o:Oper}(h:(execOp a.eval o).run P w=.ok .skip w')(hK:K (a.put o.dst undef) w'):o.nw P a w K Q:=by
 unfold Oper.nw;rw[h];exact hK
theorem W0{P:Program}{o:Oper}{a:Act}{w:World}{K K':Act->World->Prop}{Q Q':Exit->Act->World->Prop}(h:∀a w,K a w->K' a w)(hh:o.nw P a w K Q):o.nw P a w K' Q':=by
 unfold Oper.nw at hh⊢
 revert hh
 generalize(execOp a.eval o).run P w=r
 intro hh
 cases r with
 |halt _ _=>exact hh.elim
 |ok n w'=>
  cases n with
  |value v=>exact h _ _ hh
  |skip=>exact h _ _ hh
  |enter f args=>exact Calls.mono hh λe w' ⟨v,he,hk⟩=>⟨v,he,h _ _ hk⟩
  |round l f tmps assign body=>exact RoundIn.mono hh λe w' ⟨v,he,hk⟩=>⟨v,he,h _ _ hk⟩
  |_=>exact hh.elim
def pW(P:Program)(o:Oper)(ev:Operand->D)(R:Rows)(val:D)(R':Rows):Prop:=
 (∃news,R'=R++news)/\∀(c:Ctx) (w:World) (a:Act),Mem c w->c.base<=w.heap.size->mV c R->(∀r,R.length<=r->r<R'.length->c.R r=none)->(∀x∈o.op.operands,Rep c w (ev x) (a.eval x))->
  ∀K Q,(∀v w' c',KM c w R R' c' w'->Rep c' w' val v->K (a.put o.dst v) w')->o.nw P a w K Q
def Fj(P:Program)(o:Oper)(ev:Operand->D)(R:Rows)(val:D)(R':Rows):Prop:=
 ∀ (c:Ctx) (w:World) (a:Act),Mem c w->c.base<=w.heap.size->(∀r,c.R r=R.getD r none)->(∀x∈o.op.operands,Rep c w (ev x) (a.eval x))->
  ∀K Q,(∀v w' c',lY c w c' w'->(∀r,c'.R r=R'.getD r none)->Rep c' w' val v->K (a.put o.dst v) w')->o.nw P a w K Q
theorem pW.toW{o:Oper}{R:Rows}{R':Rows}(h:pW P o ev R val R'):Fj P o ev R val R':=by
 obtain⟨⟨news,hn⟩,h⟩:=h
 intro c w a hm hb hR fh K Q hK
 refine h c w a hm hb (λr row ao h1 h2=>by rw[hR,h2]at h1;exact(Option.some.inj h1).symm) (λr h1 _=>by rw[hR];simp[aK,aM h1]) fh K Q λv w' c' hs hr=>?_
 refine hK v w' c' ⟨hs.mem,hs.cg,hs.fr.mono (λb _ hf=>hf.elim),hs.fu,λr ao nF hv=>?_⟩ (λr=>?_) hr
 ·by_cases h1:R.length<=r/\r<R'.length
  ·exact .inr (hs.new r h1.1 h1.2 hv)
  ·rw[hs.rows,if_neg h1]at nF
   obtain⟨h2,h3⟩:=hs.jE r (by omega)
   exact .inl ⟨⟨_,nF⟩,λe=>hv (h3.2 e),h2⟩
 ·rw [hs.rows,hR]
  split
  ·rfl
  ·rename_i h1
   subst hn
   by_cases h2:r<R.length
   ·simp[aK,aZ h2]
   ·have h3:(R++news).length<=r:=by omega
    simp[aK,aM h3,aM (show R.length<=r by omega)]
theorem nj{o:Oper}{R:Rows}(h:∀(c:Ctx) (w:World) (a:Act),Mem c w->mV c R->(∀x∈o.op.operands,Rep c w (ev x) (a.eval x))->∃u,(execOp a.eval o).run P w=.ok (.value u) w/\Rep c w val u):pW P o ev R val R:=by
 refine⟨⟨[],by simp⟩,λc w a hm hb hA _ fh K Q hK=>?_⟩
 obtain⟨u,hu,hr⟩:=h c w a hm hA fh
 exact Qk hu (hK u w c ⟨hm,jn.refl c w,Fr.refl _ w,λb hb=>.inl hb,λr=>by rw[if_neg (by omega)],λ_ _=>⟨rfl,Iff.rfl⟩,λr h1 h2=>by omega⟩ hr)
theorem Vg{o:Oper}{R:Rows}(h:∀(c:Ctx) (w:World) (a:Act),Mem c w->mV c R->(∀x∈o.op.operands,Rep c w (ev x) (a.eval x))->
 ∃x:Sem Value,execOp a.eval o=(do pure (.value (<-x)))/\Vh P x w c R.length row val):pW P o ev R val (R++[some row]):=by
 refine⟨⟨[some row],rfl⟩,λc w a hm hb hA fk fh K Q hK=>?_⟩
 obtain⟨x,hx,u,arr,hu,hi,hr⟩:=h c w a hm hA fh
 have hk:c.R R.length=none:=fk R.length (aO _) (by simp)
 have il:(execOp a.eval o).run P w=.ok (.value u) (w.alloc (.cells arr row.ty)):=by
  rw[hx,Sem.run_bind,hu];rfl
 refine Qk il (hK u _ (c.add R.length row w.heap.size) ⟨hm.alloc hk row arr hi.1 hi.2,jn.alloc hm hk row _,Fr.alloc _ w _,λb hb=>.inl hb,λr=>?_,λr hr=>?_,λr h1 h2 _=>?_⟩ (hr hk hm))
 ·by_cases e:r=R.length
  ·subst e
   simp[Ctx.add,aK]
  ·have:¬(R.length<=r/\r<(R++[some row]).length):=by simp;omega
   rw[if_neg this]
   simp[Ctx.add,e]
 ·have:r≠R.length:=by simp at hr;omega
  simp[Ctx.add,this]
 ·have:r=R.length:=by simp at h2;omega
  simp[Ctx.add,this]
def GF:Op->Bool|.store _ _ _=>true|_=>false
theorem Zsp{c:Ctx}{cs:List D}(h:jq c w cs vs)(o n:Nat):jq c w ((cs.drop o).take n) ((vs.drop o).take n):=by
 rw[EL]at h⊢
 obtain⟨h1,h2⟩:=h
 refine⟨by simp[h1],λj v hv=>?_⟩
 simp only[aU,fS]at hv
 split at hv
 ·rename_i hj
  have:=h2 (o+j) v hv
  simp only[aK,aU,fS,hj,if_true]at this⊢
  exact this
 ·cases hv
theorem xaa{c:Ctx}: ∀{dh:List tO} {az:List D} {vs:List Value},jq c w az vs->fits dh az=true->rl vs.toArray 0 az
  | dh,az,vs,h,hf=>by
    intro j d hj
    have bz:=(List.getElem?_eq_some_iff.1 hj).1
    have hl:=h.length
    have hv:vs[j]? =some vs[j]:=cG (by omega)
    have hr:=(EL.1 h).2 j _ hv
    simp only[aK,hj,aG]at hr
    have hs : ∀{dh:List tO} {az:List D} {j:Nat},fits dh az=true->az[j]? =some d->(∃k n,d= .int k n)\/(∃b,d= .bool b)\/ ∃s,d= .str s:=by
      intro dh
      induction dh with
      |nil=>intro az j hf hj;cases az<;>simp [fits]at hf;simp at hj
      | cons t ts ih=>
        intro az j hf hj
        cases az with
        |nil=>cases t<;>simp [fits]at hf
        | cons e es=>
          cases t<;>simp only[fits,aE,aN]at hf
          all_goals
            cases j with
            |succ j=>exact ih hf.2 (by simpa using hj)
            | zero=>
              simp at hj
              subst hj
              cases e<;>simp [D.isInt,D.isBool,D.isStr]at hf⊢
    simp only[aX,aY,hv]
    rcases hs hf hj with⟨k,n,rfl⟩|⟨b,rfl⟩|⟨s,rfl⟩<;>(simp only[cz]at hr;rw[hr];rfl)
theorem Z7c{c:Ctx}{w:World}:∀{ds:List D} {vs:List Value},kp c w ds vs->∀i,i<ds.length->∃v,vs[i]?=some v/\VRep c w (ds.getD i .dead) v
 |[],[],_,i,h=>by simp at h
 |d::ds,v::vs,h,0,_=>⟨v,rfl,h.1⟩
 |d::ds,v::vs,h,i+1,hi=>by
  obtain⟨u,hu,hr⟩:=Z7c h.2 i (by simpa using hi)
  exact⟨u,by simpa using hu,by simpa using hr⟩
 |[],_::_,h,_,_=>h.elim
 |_::_,[],h,_,_=>h.elim
theorem xaw{x:iJ}(h:Dn d=some x):x.d=d:=by
 have go:∀{cs:List iJ} {ps:List (Nat×Nat×Nat)},QR cs=some ps->ps.map Iz=cs:=by
  intro cs
  induction cs with
  |nil=>intro ps h;simp[QR]at h;subst h;rfl
  |cons y l ih=>
   intro ps h
   simp only[QR]at h
   split at h
   ·rename_i p qs h1 h2
    cases h
    simp only[fQ,ih h2]
    cases y<;>simp[HN]at h1
    subst h1;rfl
   ·cases h
 cases d<;>simp only[Dn]at h<;>first|(cases h;done)|skip
 case gq f cs=>
  split at h
  ·rename_i ps hp;cases h;simp only[iJ.d,go hp]
  ·cases h
 all_goals(cases h;rfl)
theorem Xc{c:Ctx}{w:World}{ev:Operand->D}{ρ:Operand->Value}:∀{xs:List Operand} {cs:List iJ},K0 (xs.map ev)=some cs->(∀x∈xs,Rep c w (ev x) (ρ x))->oX c w cs (xs.map ρ)
 |[],cs,h,_=>by simp[K0]at h;subst h;trivial
 |x ::xs,cs,h,hr=>by
  simp only[fQ,K0]at h
  split at h
  ·rename_i y ys h1 h2
   cases h
   refine⟨?_,Xc h2 λz hz=>hr z (by simp[hz])⟩
   have:=hr x (by simp)
   rw[<-xaw h1]at this
   rw[WV]
   cases y<;>exact this
  ·cases h
theorem NK{T:iM}(hT:jD P T)(o:Oper)(ev:Operand->D)(R:Rows)(K:D->Rows->Prop)(h:ig T o.op ev R K):
 ∃val R',K val R'/\(if GF o.op then Fj P o ev R val R' else pW P o ev R val R'):=by
 obtain⟨dst,op,type,pos,after,guard⟩:=o
 simp only at h
 cases op<;>(try simp only[ig]at h)<;>try(exact h.elim)
 case makeFunc fn first captured=>
  cases fn<;>simp only at h<;>try(exact h.elim)
  rename_i f
  simp only[db,aE]at h
  obtain⟨⟨h0,hy⟩,h⟩:=h
  split at h
  ·rename_i cs hc
   refine⟨_,_,h,nj λc w a hm hA fh=>?_⟩
   have hf:first= #[]:=Array.eq_empty_of_size_eq_zero (bE h0)
   subst hf
   refine⟨.func (.func f) #[] (captured.map a.eval),?_,captured.toList.map a.eval,?_,Xc hc λx hx=>fh x (by simp[Op.operands];simpa using hx)⟩
   ·simp only[execOp,Instr.makeFunc,Sem.run_bind,Sem.run_pure,Array.map_empty];rfl
   ·exact .inl ⟨lE hy,by rw[<-bR,bS]⟩
  ·exact h.elim
 case move x=>
  rw[D.cu]at h
  exact⟨_,_,h,nj λc w a hm hA fh=>⟨_,rfl,fh x (by simp[Op.operands])⟩⟩
 case assign x=>
  rw[D.cu]at h
  exact⟨_,_,h,nj λc w a hm hA fh=>⟨_,rfl,fh x (by simp[Op.operands])⟩⟩
 case alloc t=>
  split at h
  ·rename_i ht
   simp only[db,aE,Qx]at h
   obtain⟨⟨h0,hl⟩,h⟩:=h
   exact⟨_,_,h,Vg λc w a hm hA fh=>⟨_,rfl,Zoz hT ht (lE h0) (bE hl) R.length c w⟩⟩
  ·exact h.elim
 case box t x=>
  split at h
  ·rename_i ht
   simp only[db,aE,Qx,D.fp]at h
   obtain⟨⟨⟨h0,hv⟩,hl⟩,h⟩:=h
   exact⟨_,_,h,Vg λc w a hm hA fh=>⟨_,rfl,zaQ (lE h0) hv (bE hl) R.length c w (fh x (by simp[Op.operands]))⟩⟩
  ·exact h.elim
 case build t parts=>
  obtain⟨val,hK,hr⟩:=qT hT h
  refine⟨_,_,hK,nj λc w a hm hA fh=>?_⟩
  obtain⟨u,hu,hx⟩:=hr c w a.eval (λp hp=>fh p.2 (by simp[Op.operands];exact⟨p.1,by simpa using hp⟩))
  refine⟨u,?_,hx⟩
  simp only[execOp]
  rw[Sem.run_bind,show parts.map (λx=>(x.1,a.eval x.2))=(parts.toList.map λp=>(p.1,a.eval p.2)).toArray from by rw[<-bR,bS],hu]
  rfl
 case buildSlice t len parts=>
  obtain⟨val,hK,hr⟩:=Zqs hT h
  refine⟨_,_,hK,⟨[],by simp⟩,λc w a hm hb hA _ fh K Q hK=>?_⟩
  obtain⟨u,arr,ty,hu,hx⟩:=hr c w a.eval hb (λp hp=>fh p.2 (by simp[Op.operands];exact⟨p.1,by simpa using hp⟩))
  have il:(execOp a.eval (⟨dst,.buildSlice t len parts,type,pos,after,guard⟩:Oper)).run P w=.ok (.value u) (w.alloc (.cells arr ty)):=by
   simp only[execOp]
   rw[Sem.run_bind,show parts.map (λx=>(x.1,a.eval x.2))=(parts.toList.map λp=>(p.1,a.eval p.2)).toArray from by rw[<-bR,bS],hu]
   rfl
  exact Qk il (hK u _ (c.fu w.heap.size) ⟨zaw hm _,Vf hm _,Fr.alloc _ w _,λb hb=>hb.elim .inl (λe=>.inr (by omega)),λr=>by rw[if_neg (by omega)];rfl,λ_ _=>⟨rfl,Iff.rfl⟩,λr h1 h2=>by omega⟩ (hx hm))
 case load t x=>
  obtain⟨val,hK,hr⟩:=Zi hT h
  refine⟨_,_,hK,nj λc w a hm hA fh=>?_⟩
  obtain⟨u,hu,hx⟩:=hr c w _ hm hA (fh x (by simp[Op.operands]))
  exact⟨u,by simp only[execOp];rw[Sem.run_bind,hu];rfl,hx⟩
 case store t x y=>
  obtain⟨R',hK,hr⟩:=Zrz hT h
  refine⟨_,_,hK,?_⟩
  simp only[GF,if_true]
  intro c w a hm hb hR fh K Q hK
  obtain⟨r,ao,arr,w',il,ZL,⟨row,cq⟩,hV,hg,jS,j7⟩:=hr c w _ _ hm hR (fh x (by simp[Op.operands])) (fh y (by simp[Op.operands]))
  refine qS (w':=w') ?_ (hK undef w' _ ⟨jS,hg,?_,λb hb=>.inl hb,λs oF hs hv=>?_⟩ j7 trivial)
  ·simp only[execOp];rw[Sem.run_bind,il];rfl
  rotate_left
  ·by_cases e:s=r
   ·exact .inl ⟨⟨row,by rw[e];exact cq⟩,hv,rfl⟩
   ·exact .inl ⟨⟨oF,by simpa[Ctx.jF,e]using hs⟩,hv,rfl⟩
  ·rw[ZL]
   exact(S4 w _ arr).mono λb _ e=>⟨r,row,cq,hV,e.symm⟩
 case nilCheck x=>
  have go:∀d,ev x=d->(∃a b c,d=.ptr a b c)\/(∃a b c e,d=.iv a b c e)->K d R->∃val R',K val R'/\pW P ⟨dst,.nilCheck x,type,pos,after,guard⟩ ev R val R':=by
   intro d hd QS hK
   refine⟨_,_,hK,nj λc w a hm hA fh=>?_⟩
   have hx:=fh x (by simp[Op.operands])
   rw[hd]at hx
   have hp:∃q,a.eval x=.pointer (some q):=by
    rcases QS with⟨r,i,off,rfl⟩|⟨sz,es,i,off,rfl⟩
    ·obtain⟨_,_,_,_,hv⟩:=hx;exact⟨_,hv⟩
    ·obtain⟨_,_,_,_,_,hv,_⟩:=hx;exact⟨_,hv⟩
   obtain⟨q,hq⟩:=hp
   refine⟨a.eval x,?_,hx⟩
   simp only[execOp,hq,Sem.run_pure]
  split at h
  ·rename_i hd;exact go _ hd (.inl ⟨_,_,_,rfl⟩) h
  ·rename_i hd;exact go _ hd (.inr ⟨_,_,_,_,rfl⟩) h
  ·exact h.elim
 case binOp op t x y ty=>
  have fin:∀(val:D),(∀c w u v,Rep c w (ev x) u->Rep c w (ev y) v->∃z,(do eqGuard op t x y u v;binOp op t u v).run P w=.ok z w/\Rep c w val z)->pW P ⟨dst,.binOp op t x y ty,type,pos,after,guard⟩ ev R val R:=λval hv=>
   nj λc w a hm hA fh=>by
    obtain⟨z,hz,hr⟩:=hv c w _ _ (fh x (by simp[Op.operands])) (fh y (by simp[Op.operands]))
    refine⟨z,?_,hr⟩
    simp only[execOp]
    rw[Sem.run_bind,hz];rfl
  unfold tl at h
  split at h
  ·rename_i k a k' b hx hy
   split at h
   ·simp only[db,decide_eq_true_eq]at h
    refine⟨_,_,h.2,fin _ λc w u v hu hv=>?_⟩
    rw[hx]at hu;rw[hy]at hv
    rw[Rep.int.1 hu,Rep.int.1 hv]
    exact⟨_,by rw[Sem.run_bind,Qtp];exact(Zgv h.1 w).1,rfl⟩
   ·simp only[db,decide_eq_true_eq]at h
    refine⟨_,_,h.2,fin _ λc w u v hu hv=>?_⟩
    rw[hx]at hu;rw[hy]at hv
    rw[Rep.int.1 hu,Rep.int.1 hv]
    exact⟨_,by rw[Sem.run_bind,Qtp];exact(Zgv h.1 w).2,rfl⟩
   ·rename_i h1 h2
    simp only[db,decide_eq_true_eq]at h
    obtain⟨rfl,h⟩:=h
    obtain⟨d,hK,hr⟩:=qax (P:=P) (t:=t) ⟨λe=>h1 e,λe=>h2 e⟩ h
    refine⟨_,_,hK,fin _ λc w u v hu hv=>?_⟩
    rw[hx]at hu;rw[hy]at hv
    rw[Rep.int.1 hu,Rep.int.1 hv]
    obtain⟨z,hz,hz'⟩:=hr w
    exact⟨z,by rw[Sem.run_bind,Qtp];exact hz,hz' c⟩
  ·rename_i a b hx hy
   obtain⟨d,hK,hr⟩:=zax (P:=P) (t:=t) (op:=op) (a:=a) (b:=b) (K:=λd=>K d R) h
   refine⟨_,_,hK,fin _ λc w u v hu hv=>?_⟩
   rw[hx]at hu;rw[hy]at hv
   rw[Rep.str.1 hu,Rep.str.1 hv]
   obtain⟨z,hz,hz'⟩:=hr w
   exact⟨z,by rw[Sem.run_bind,Zms];exact hz,hz' c⟩
  ·rename_i a b hx hy
   split at h
   ·rename_i ht
    have hd:=nf hT ht
    simp only at hd
    split at h
    ·refine⟨_,_,h,fin _ λc w u v hu hv=>?_⟩
     rw[hx]at hu;rw[hy]at hv
     rw[Rep.bool.1 hu,Rep.bool.1 hv]
     refine⟨_,?_,rfl⟩
     rw[Sem.run_bind,Z0w]
     simp only[binOp]
     simp[Op.equal,Op.maxDepth,run_equalIn_bool' w 9999 t a b hd]
    ·refine⟨_,_,h,fin _ λc w u v hu hv=>?_⟩
     rw[hx]at hu;rw[hy]at hv
     rw[Rep.bool.1 hu,Rep.bool.1 hv]
     refine⟨_,?_,rfl⟩
     rw[Sem.run_bind,Z0w]
     simp only[binOp]
     simp[Op.equal,Op.maxDepth,run_equalIn_bool' w 9999 t a b hd]
    ·exact h.elim
   ·exact h.elim
  ·rename_i a b hx hy
   split at h
   ·rename_i ti ht
    simp only[db,aE]at h
    obtain⟨⟨⟨⟨⟨Dm,h0⟩,he⟩,fa⟩,fb⟩,h⟩:=h
    obtain⟨i0,r6,Ff,_,Bz,AD,_,heq,hc,d0,Gd⟩:=Ea (hT.get ht)
    have h0:0<ti.size:=lE h0
    rw[heq]at he
    simp only[aE,Bool.not_eq_true']at he
    rw[hc]at fa fb
    have kG:P.cellsOf t=(mq P 8 t).length:=by rw[<-hc,Bz];simp[Program.cellsOf,r6,Ff]
    have uP:0<P.cellsOf t:=by simp[Program.cellsOf,r6,Ff,h0]
    have QT:∀c w u v,Rep c w (ev x) u->Rep c w (ev y) v->∃us vs:Array Value,u=.agg us/\v=.agg vs/\(Op.equalIn 10000 t (.agg us) (.agg vs)).run P w=.ok (eqs a b) w:=by
     intro c w u v hu hv
     rw[hx]at hu;rw[hy]at hv
     obtain⟨us,hu,ru⟩:=hu
     obtain⟨vs,hv,rv⟩:=hv
     refine⟨us.toArray,vs.toArray,hu,hv,?_⟩
     have J6:=Zn6 (P:=P) 8 t 10000 (by omega) he.2 kG uP us.toArray vs.toArray 0 a b w fa fb (xaa ru fa) (xaa rv fb)
     have hlu:=ru.length;have hlv:=rv.length
     have hla:=tn fa;have NZ:=tn fb
     have uK:QO d0=true:=by rw[<-MR Gd,<-AD];exact Dm
     simp only[oM,Sem.run_bind,Vi Gd uK uP,Result.andThen_ok]at J6
     rw[show us.toArray.extract 0 (0+P.cellsOf t)=us.toArray from by apply fY;simp;omega,show vs.toArray.extract 0 (0+P.cellsOf t)=vs.toArray from by apply fY;simp;omega]at J6
     exact J6
    split at h
    ·refine⟨_,_,h,fin _ λc w u v hu hv=>?_⟩
     obtain⟨us,vs,rfl,rfl,hr⟩:=QT c w u v hu hv
     refine⟨_,?_,rfl⟩
     rw[Sem.run_bind,run_eqGuard_agg w _ _ _ _ _ _ he.1,Result.andThen_ok,run_eql_struct,hr];rfl
    ·refine⟨_,_,h,fin _ λc w u v hu hv=>?_⟩
     obtain⟨us,vs,rfl,rfl,hr⟩:=QT c w u v hu hv
     refine⟨_,?_,rfl⟩
     rw[Sem.run_bind,run_eqGuard_agg w _ _ _ _ _ _ he.1,Result.andThen_ok,run_neq_struct,hr];rfl
    ·exact h.elim
   ·exact h.elim
  ·exact h.elim
 case unOp op t x=>
  split at h
  ·rename_i k n hx
   refine⟨_,_,h,nj λc w a hm hA fh=>?_⟩
   have:=fh x (by simp[Op.operands])
   rw[hx]at this
   exact⟨_,by simp only[execOp,Rep.int.1 this,Op.unary,Op.intArith,Sem.run_bind,Sem.run_pure];rfl,rfl⟩
  ·rename_i k n hx
   refine⟨_,_,h,nj λc w a hm hA fh=>?_⟩
   have:=fh x (by simp[Op.operands])
   rw[hx]at this
   exact⟨_,by simp only[execOp,Rep.int.1 this,Op.unary,Op.intBits,Sem.run_bind,Sem.run_pure];rfl,rfl⟩
  ·rename_i b hx
   refine⟨_,_,h,nj λc w a hm hA fh=>?_⟩
   have:=fh x (by simp[Op.operands])
   rw[hx]at this
   exact⟨_,by simp only[execOp,Rep.bool.1 this,Op.unary,Sem.run_bind,Sem.run_pure];rfl,rfl⟩
  ·exact h.elim
 case convert s d x=>
  obtain⟨val,hK,hr⟩:=xax hT h
  refine⟨_,_,hK,nj λc w a hm hA fh=>?_⟩
  obtain⟨u,hu,hx⟩:=hr c w _ (fh x (by simp[Op.operands]))
  exact⟨u,by simp only[execOp];rw[Sem.run_bind,hu];rfl,hx⟩
 case makeSlice t l cp=>
  split at h
  ·rename_i kl n kc m hl hc
   obtain⟨row,val,hK,hr⟩:=xx (kl:=kl) (kc:=kc) hT h
   refine⟨_,_,hK,Vg λc w a hm hA fh=>⟨_,rfl,?_⟩⟩
   have h1:=fh l (by simp[Op.operands]);have h2:=fh cp (by simp[Op.operands])
   rw[hl]at h1;rw[hc]at h2
   rw[Rep.int.1 h1,Rep.int.1 h2]
   exact hr c w
  ·exact h.elim
 case slice t x lo hi mx=>
  cases mx with
  |some m=>simp only at h
  |none=>
   simp only at h
   obtain⟨val,hK,hr⟩:=vS hT h
   refine⟨_,_,hK,nj λc w a hm hA fh=>?_⟩
   obtain⟨u,hu,hx⟩:=hr c w _ a.eval hm hA (fh x (by simp[Op.operands])) (λy hy=>fh y (by simp[Op.operands,hy])) (λy hy=>fh y (by simp[Op.operands,hy]))
   exact⟨u,by simp only[execOp];rw[Sem.run_bind];simp only[Option.map_none];rw[hu];rfl,hx⟩
 case fieldAddr s x f=>
  split at h
  ·rename_i o q n hf
   simp only[db]at h
   obtain⟨h0,h⟩:=h
   have h0:0<n:=lE h0
   obtain⟨fs,fd,g1,g2,g3,g4,g5⟩:=Z0l hT hf
   split at h
   ·rename_i r i off hx
    refine⟨_,_,h,nj λc w a hm hA fh=>?_⟩
    have:=fh x (by simp[Op.operands])
    rw[hx]at this
    obtain⟨row,k1,kV,k2,hv⟩:=this
    refine⟨_,by simp only[execOp,hv];rw[Sem.run_bind,Z6g g1 g2 (by simp only at g5;omega)];rfl,row,k1,kV,k2,by rw[g3,fX]⟩
   ·rename_i sz es i off hx
    refine⟨_,_,h,nj λc w a hm hA fh=>?_⟩
    have:=fh x (by simp[Op.operands])
    rw[hx]at this
    obtain⟨b,oo,arr,ty,fz,hv,hI,hi,hh,hE⟩:=this
    refine⟨_,by simp only[execOp,hv];rw[Sem.run_bind,Z6g g1 g2 (by simp only at g5;omega)];rfl,b,oo,arr,ty,fz,by rw[g3,fX],hI,hi,hh,hE⟩
   ·exact h.elim
  ·exact h.elim
 case field s x f=>
  split at h
  ·rename_i o q n hf
   obtain⟨fs,fd,g1,g2,g3,g4,g5⟩:=Z0l hT hf
   simp only at g4 g5
   split at h
   ·rename_i cs ti hx ht
    simp only[db,aE]at h
    obtain⟨⟨h0,hle⟩,h⟩:=h
    have h0:0<n:=lE h0
    have hle:=lE hle
    obtain⟨_,_,_,_,_,AD,_,_,_,d0,Gd⟩:=Ea (hT.get ht)
    have run:∀(vs:List Value) (w:World) (r:Value),(part q vs.toArray o).run P w=.ok r w->(Instr.field s (.agg vs.toArray) f).run P w=.ok r w:=λvs w r hr=>by
     simp only[Instr.field,Sem.run_bind,run_underlying g1,Result.andThen_ok,g2,asAgg,Sem.run_pure,g4,g3,hr]
    split at h
    ·rename_i Dm
     rw[D.fp]at h
     refine⟨_,_,h,nj λc w a hm hA fh=>?_⟩
     have:=fh x (by simp[Op.operands])
     rw[hx]at this
     obtain⟨vs,hv,hr⟩:=this
     have hp:=Vi (P:=P) Gd (by rw[<-MR Gd,<-AD];exact Dm) (by rw[<-g4,g5];exact h0) vs.toArray o w
     refine⟨_,by simp only[execOp,hv];rw[Sem.run_bind,run vs w _ hp];rfl,(vs.drop o).take n,?_,Zsp hr o n⟩
     rw[<-g4,g5]
     congr 1
     simp[List.extract_toArray,List.extract_eq_take_drop]
    ·rename_i Dm
     simp only[D.cu]at h
     obtain⟨mI,h⟩:=h
     refine⟨_,_,h,nj λc w a hm hA fh=>?_⟩
     have:=fh x (by simp[Op.operands])
     rw[hx]at this
     obtain⟨vs,hv,hr⟩:=this
     have hl:=hr.length
     have ja:vs[o]?=some vs[o]:=cG (by omega)
     have hp:=HO (P:=P) (t:=q) Gd (by rw[<-MR Gd,<-AD];exact Dm) (xs:=vs.toArray) (o:=o) (v:=vs[o]) (by rw[aY];exact ja) w
     refine⟨_,by simp only[execOp,hv];rw[Sem.run_bind,run vs w _ hp];rfl,?_⟩
     have hc:=(EL.1 hr).2 o _ ja
     generalize cs.getD o .dead=d at*
     cases d<;>first|exact hc|trivial|exact hc.elim
   ·exact h.elim
  ·exact h.elim
 case indexAddr t x ix=>
  split at h
  ·rename_i k n hn
   obtain⟨val,hK,hr⟩:=Zs (k:=k) hT h
   refine⟨_,_,hK,nj λc w a hm hA fh=>?_⟩
   have h2:=fh ix (by simp[Op.operands])
   rw[hn]at h2
   obtain⟨u,hu,hx⟩:=hr c w _ hm hA (fh x (by simp[Op.operands]))
   exact⟨u,by simp only[execOp,Rep.int.1 h2];rw[Sem.run_bind,hu];rfl,hx⟩
  ·exact h.elim
 case index t x ix=>
  split at h
  ·rename_i s k n ht hx hn
   have hd:=nf hT ht
   simp only at hd
   simp only[db,decide_eq_true_eq]at h
   obtain⟨⟨h1,h2⟩,h⟩:=h
   refine⟨_,_,h,nj λc w a hm hA fh=>?_⟩
   have e1:=fh x (by simp[Op.operands]);have e2:=fh ix (by simp[Op.operands])
   rw[hx]at e1;rw[hn]at e2
   refine⟨_,?_,rfl⟩
   have bz:n.toNat<s.length:=by omega
   have hg:(ByteArray.mk s.toArray)[n.toNat]?=some (s.getD n.toNat 0):=by
    have h3:n.toNat<(ByteArray.mk s.toArray).size:=by simpa[ByteArray.size]using bz
    rw[getElem?_pos (ByteArray.mk s.toArray) n.toNat h3]
    simp only[aK,cG bz,aG]
    rfl
   simp only[execOp,Rep.str.1 e1,Rep.int.1 e2,Instr.index,asIntOf,Sem.run_bind,Sem.run_pure,Result.andThen_ok,run_underlying hd,h1,if_true,hg]
  ·rename_i len e iP _ _ _ _ _ cs k n ht hx hn
   have hd:=nf hT ht
   simp only at hd
   obtain⟨hd,fy⟩:=hd
   simp only[db,aE,decide_eq_true_eq]at h
   obtain⟨⟨q1,q2,q3,q4⟩,h⟩:=h
   have q1:=bE q1
   have q2:=bE q2
   have run:∀(vs:List Value) (v:Value) (w:World) (d:TypeDesc),P.underlying e=some d->QO d=false->vs[n.toNat]?=some v->(Instr.index t (.agg vs.toArray) (.int k n)).run P w=.ok v w:=λvs v w d hu hda hv=>by
    have h0:0<P.cellsOf e:=by omega
    simp only[Instr.index,asIntOf,Sem.run_bind,Sem.run_pure,Result.andThen_ok,run_underlying hd,Sem.run_ite,q3,q4,and_self,if_true,BL h0]
    rw[fy,q1,Nat.mul_one]
    exact HO hu hda (by rw[aY];exact hv) w
   have cell:∀(c:Ctx) (w:World) (a:Act),Rep c w (.agg cs) (a.eval x)->∃vs:List Value,a.eval x=.agg vs.toArray/\∃v,vs[n.toNat]?=some v/\cz c w (cs.getD n.toNat .dead) v:=λc w a hr=>by
    obtain⟨vs,hv,hr⟩:=hr
    have hl:=hr.length
    have ja:vs[n.toNat]?=some vs[n.toNat]:=cG (by omega)
    exact⟨vs,hv,_,ja,(EL.1 hr).2 _ _ ja⟩
   split at h
   ·rename_i kk _ _ _ _ _ he
    have hu:=nf hT he
    simp only at hu
    obtain⟨h1,h⟩:=h
    refine⟨_,_,h,nj λc w a hm hA fh=>?_⟩
    have e1:=fh x (by simp[Op.operands]);have e2:=fh ix (by simp[Op.operands])
    rw[hx]at e1;rw[hn]at e2
    obtain⟨vs,hv,v,g1,g2⟩:=cell c w a e1
    have hi:=Vb h1 (n:=n.toNat) (by omega)
    rw[aX]at hi
    rw[D.kj hi]at g2
    refine⟨v,?_,?_⟩
    ·simp only[execOp,Rep.int.1 e2,hv]
     rw[Sem.run_bind,run vs v w _ hu rfl g1];rfl
    ·rw[U9 (show n.toNat<len by omega),aX]
     exact g2
   ·rename_i he
    have hu:=nf hT he
    simp only at hu
    obtain⟨h1,h⟩:=h
    refine⟨_,_,h,nj λc w a hm hA fh=>?_⟩
    have e1:=fh x (by simp[Op.operands]);have e2:=fh ix (by simp[Op.operands])
    rw[hx]at e1;rw[hn]at e2
    obtain⟨vs,hv,v,g1,g2⟩:=cell c w a e1
    have hi:=Vc h1 (n:=n.toNat) (by omega)
    rw[aX]at hi
    rw[D.ko hi]at g2
    refine⟨v,?_,?_⟩
    ·simp only[execOp,Rep.int.1 e2,hv]
     rw[Sem.run_bind,run vs v w _ hu rfl g1];rfl
    ·rw[Va (show n.toNat<len by omega),aX]
     exact g2
   ·exact h.elim
  ·exact h.elim
 case extract x i=>
  split at h
  ·rename_i ds hx
   simp only[db,D.cu]at h
   obtain⟨hv,h⟩:=h
   refine⟨_,_,h,nj λc w a hm hA fh=>?_⟩
   have:=fh x (by simp[Op.operands])
   rw[hx]at this
   obtain⟨vs,Cj,hr⟩:=this
   have bz:i<ds.length:=by
    by_cases hl:i<ds.length
    ·exact hl
    ·rw[aK,aM (by omega)]at hv;simp[D.isVal]at hv
   obtain⟨v,hvi,hvr⟩:=Z7c hr i bz
   refine⟨v,?_,?_⟩
   ·simp only[execOp,Cj,Instr.extract,aY,hvi];rfl
   ·generalize ds.getD i .dead=d at*
    cases d<;>first|exact hvr|trivial|exact hvr.elim
  ·exact h.elim
 case call cl=>
  obtain⟨callee,args,dh⟩:=cl
  cases callee<;>try(simp only at h)
  case builtin b=>
  cases b<;>try(simp only at h)
  case len=>
   split at h
   ·rename_i x t hx ht
    obtain⟨val,hK,hr⟩:=qaQ (t':=type) hT h
    refine⟨_,_,hK,nj λc w a hm hA fh=>?_⟩
    have gb:args= #[x]:=by rw[<-bS (xs:=args),hx]
    have uE:dh= #[t]:=by rw[<-bS (xs:=dh),ht]
    subst gb;subst uE
    obtain⟨u,hu,hx⟩:=hr c w _ hm hA (fh x (by simp[Op.operands,Call.operands]))
    refine⟨u,?_,hx⟩
    simp only[execOp,resolve,Sem.run_bind,Sem.run_pure,Result.andThen_ok,invoke,builtin]
    have:(#[x]:Array Operand).map a.eval= #[a.eval x]:=by simp
    rw[this,hu];rfl
   ·exact h.elim
def Ctx.kill(c:Ctx)(ks:List Nat):Ctx:={c with R:=λr=>if cf r ks=true then none else(c.R r).map (Row.kill ks)}
structure jJ(ks:List Nat)(c:Ctx)(w:World)(c':Ctx)(w':World):Prop where
 mem:Mem c' w'
 cg:jn (c.kill ks) w c' w'
 fr:Fr (λb=>∃r x,c.R r=some x/\¬c.V r/\c.ρ r=b) w w'
 fu:∀b,c'.I b->c.I b\/(∃s row,cf s ks=true/\c.R s=some row/\¬c.V s/\c.ρ s=b)\/w.heap.size<=b
 oy:∀r ao,c'.R r=some ao->¬c'.V r->((∃row,c.R r=some row)/\¬c.V r/\c'.ρ r=c.ρ r)\/(∃s row,cf s ks=true/\c.R s=some row/\¬c.V s/\c'.ρ r=c.ρ s)\/w.heap.size<=c'.ρ r
def kr(P:Program)(f:FuncId)(args:List D)(rows:List Row)(res:D)(aj:List Row):Prop:=
 ∀ (c:Ctx) (w:World) (vs:List Value),Mem c w->c.base=w.heap.size->(∀r,c.R r=rows[r]?)->kp c w args vs->
  Calls P f vs.toArray w λe w'=>∃v c',e=.returned v/\lY c w c' w'/\(∀r,c'.R r=aj[r]?)/\Rep c' w' res v
def GQ(P:Program)(I:ag)(f:FuncId)(vs:List Value)(w:World)(R:Ending->World->Prop):Prop:=
 (f<YB->Calls P f vs.toArray w R)/\
 (YB<=f->∀l rec xs us,vs=xs++us->I l->w.heap[l]?=some (.loop rec)->QU f us rec->xs.length=1->
  RoundIn Fence.wide 0 P l rec.fn ((rec.params.zip xs.toArray).foldl (λtmps (t,a)=>tmps.setIfInBounds t a) rec.tmps) rec.assign rec.body w R)
theorem GQ.mono{f:FuncId}{R R':Ending->World->Prop}(h:GQ P I f vs w R)(hI:∀b,I' b->I b)(hR:∀e w',R e w'->R' e w'):GQ P I' f vs w R':=
 ⟨λhf=>(h.1 hf).mono hR,λhf l rec xs us h1 h2 h3 h4 h5=>(h.2 hf l rec xs us h1 (hI l h2) h3 h4 h5).mono hR⟩
theorem GQ.real{f:FuncId}{R:Ending->World->Prop}(hf:f<YB)(h:Calls P f vs.toArray w R):GQ P I f vs w R:=⟨λ_=>h,λhg=>absurd hf (Nat.not_lt.2 hg)⟩
def sV(P:Program)(f:FuncId)(k:Nat)(args:List D)(rows:List Row)(res:D)(aj:List Row):Prop:=
 ∀ (c:Ctx) (w:World) (vs:List Value),Mem c w->c.base=0->(∀r,c.R r=rows[r]?)->kp c w args vs->
  GQ P c.I f vs w λe w'=>∃v c',e=.returned v/\jJ (List.range' k (rows.length-k)) c w c' w'/\(∀r,c'.R r=aj[r]?)/\Rep c' w' res v
def lh:D->Prop|.int _ _=>True|.bool _=>True|.str _=>True|.dx=>True|.iO=>True|.emp=>True|_=>False
def CT.lh:CT->Bool|.int _=>true|.bool=>true|.str=>true|_=>false
def RK.lh(k:RK):Bool:=k.sig.all CT.lh
def ak.Ge:ak->Prop
 |.gen es=>∀e∈es,∀d∈e,lh d
 |.ax k _=>k.lh=true
 |_=>True
theorem Z9z:∀{ts:List CT} {cs:List D} {j:Nat},ts.all CT.lh=true->∀d∈wE ts cs j,lh d
 |[],_,_,_,d,h=>by simp[wE]at h
 |t ::ts,cs,j,ht,d,h=>by
  simp only[List.all_cons,aE]at ht
  simp only[wE,cS]at h
  rcases h with h|h
  ·subst h
   cases t<;>first|trivial|(simp[CT.lh]at ht)
  ·exact Z9z ht.2 d h
theorem ak.Dp{E:ak}(h:E.Ge):∀e∈E.l,∀d∈e,lh d:=by
 cases E with
 |gen es=>exact h
 |ints k l=>
  intro e he d hd
  simp only[ak.l,fZ]at he
  obtain⟨n,_,rfl⟩:=he
  simp at hd
  subst hd;trivial
 |bw l=>
  intro e he d hd
  simp only[ak.l,fZ]at he
  obtain⟨n,_,rfl⟩:=he
  simp at hd
  subst hd;trivial
 |ax k l=>
  intro e he d hd
  simp only[ak.l,fZ]at he
  obtain⟨x,_,rfl⟩:=he
  rw[<-RK.ot]at hd
  exact Z9z h d hd
def QV:D->Prop
 |.sl _ es fr=>(es.Nil\/fr=true)/\es.Ge
 |.iv _ _ _ _=>False
 |.gq _ _=>False
 |_=>True
def MV:List D->Prop
 |[]=>True
 |d::ds=>QV d/\MV ds
def Vj:D->Prop
 |.agg cs=>MV cs
 |d=>QV d
def Gf:List D->Prop
 |[]=>True
 |d::ds=>Vj d/\Gf ds
def FF:D->Prop
 |.dt ds=>Gf ds
 |d=>Vj d
def J7(row:Row):Prop:=if row.box then∀e∈row.es.l,MV e else row.es.Ge
def rR:List Row->Prop
 |[]=>True
 |r::l=>J7 r/\rR l
structure bj(P:Program)(x:bf):Prop where
 enters:x.f<YB->∀args w,(callFunc x.f args).run P w=.ok (.enter x.f args) w
 real:x.gone=none->x.f<YB
 ok:x.gone=none->∀args rows res aj,x.m args rows=.ok res aj->kr P x.f args rows res aj/\(x.flat=true->FF res/\rR aj)
 when:x.gone=none->∀args rows p res aj,x.m args rows=.when p res aj->p->kr P x.f args rows res aj/\(x.flat=true->FF res/\rR aj)
 abs:x.gone=none->∀args rows α v res aj,x.m args rows=.abs α v res aj->kr P x.f args rows (res v) (aj v)/\(x.flat=true->FF (res v)/\rR (aj v))
 lX:x.gone=none->∀args rows p α v res aj,x.m args rows=.lX p α v res aj->p->kr P x.f args rows (res v) (aj v)/\(x.flat=true->FF (res v)/\rR (aj v))
 QL:∀k,x.gone=some k->∀args rows α v res aj,x.m args rows=.abs α v res aj->sV P x.f k args rows (res v) (aj v)
 HI:∀k,x.gone=some k->∀args rows p α v res aj,x.m args rows=.lX p α v res aj->p->sV P x.f k args rows (res v) (aj v)
def j5(P:Program)(G:List bf):Prop:=∀x∈G,bj P x
theorem GC{P:Program}:∀{G:List bf} {f:FuncId} {x:bf},j5 P G->oZ G f=some x->bj P x/\x.f=f
 |[],f,x,_,h=>by simp[oZ]at h
 |y ::l,f,x,hG,h=>by
  simp only[oZ]at h
  split at h
  ·rename_i hb
   simp at h;subst h
   exact⟨hG y (by simp),bE hb⟩
  ·exact GC (λz hz=>hG z (by simp[hz])) h
theorem Zp3:∀{rows:List Row} {i:Nat} {row:Row},rR rows->rows[i]?=some row->J7 row
 |r::l,0,row,h,hi=>by simp at hi;subst hi;exact h.1
 |r::l,i+1,row,h,hi=>Zp3 h.2 (by simpa using hi)
 |[],i,row,_,hi=>by simp at hi
theorem oA{r:Nat}:∀{l:List Nat},cf r l=true↔r∈l
 |[]=>by simp[cf]
 |x ::l=>by
  simp only[cf]
  cases hb:Nat.beq x r with
  |true=>have:=bE hb;subst this;simp
  |false=>
   have gv:¬r=x:=λe=>by rw[e]at hb;simp at hb
   simp[oA (l:=l),gv]
theorem MM:∀{l m:List Nat},pO l m=true↔ ∀r∈l,r∈m
 |[],m=>by simp[pO]
 |x::l,m=>by
  simp only[pO]
  cases hb:cf x m with
  |true=>simp[MM (l:=l),oA.1 hb]
  |false=>simp[show¬x∈m fromλe=>by rw[oA.2 e]at hb;cases hb]
theorem UR:∀{l m:List Nat},nV l m=true↔ ∀r∈l,¬r∈m
 |[],m=>by simp[nV]
 |x::l,m=>by
  simp only[nV]
  cases hb:cf x m with
  |true=>simp[oA.1 hb]
  |false=>simp[UR (l:=l),show¬x∈m fromλe=>by rw[oA.2 e]at hb;cases hb]
theorem MN:∀{l:List Nat},EN l=true↔l.Nodup
 |[]=>by simp[EN]
 |x::l=>by
  simp only[EN,List.nodup_cons]
  cases hb:cf x l with
  |true=>simp[oA.1 hb]
  |false=>simp[MN (l:=l),show¬x∈l fromλe=>by rw[oA.2 e]at hb;cases hb]
theorem Zq3{r:Nat}:∀{l:List Nat} {k:Nat},r∈l->∃j,pos r l k=k+j/\l[j]?=some r
 |x ::l,k,h=>by
  simp only[pos]
  cases hb:Nat.beq x r with
  |true=>exact⟨0,rfl,by simp[bE hb]⟩
  |false=>
   have gv:¬r=x:=λe=>by rw[e]at hb;simp at hb
   have hm:r∈l:=by simpa[gv]using h
   obtain⟨j,h1,h2⟩:=Zq3 (k:=k+1) hm
   exact⟨j+1,by show pos r l (k+1)=_;rw[h1];omega,by simpa using h2⟩
theorem BI{r:Nat}{l:List Nat}(h:r∈l):l[pos r l 0]?=some r:=by
 obtain⟨j,h1,h2⟩:=Zq3 (k:=0) h
 rw[h1,aX];exact h2
structure EK(S:Nat->Prop)(f:Nat->Nat)(cy:Bool)(c1 c2:Ctx):Prop where
 row:∀i row,S i->c1.R i=some row->∃ao,c2.R (f i)=some ao/\ao.box=row.box/\ao.ty=row.ty/\ao.sz=row.sz/\ao.es.l.length=row.es.l.length/\c2.ρ (f i)=c1.ρ i/\(c2.V (f i)↔c1.V i)
 base:cy=true->c2.base<=c1.base
 top:c1.top<=c2.top
theorem xS(hs:lh d)(h:ga I w d v):ga I' w d v:=by
 cases h<;>first|exact hs.elim|constructor
theorem Zbs{I I':ag}{w:World}:∀{cs:List D} {arr:Array Value} {off:Nat},(∀d∈cs,lh d)->nZ I w cs arr off->nZ I' w cs arr off
 |[],_,_,_,_=>by simp[Cb,AE]
 |d::cs,arr,off,hs,h=>by
  simp only[Cb,AE]at h⊢
  obtain⟨⟨v,hv,hp⟩,hr⟩:=h
  exact⟨⟨v,hv,xS (hs d (by simp)) hp⟩,Zbs (λe he=>hs e (by simp[he])) hr⟩
theorem Qyd{I I':ag}{w:World}:∀{es:List (List D)} {arr:Array Value} {off sz:Nat},(∀e∈es,∀d∈e,lh d)->iK I w es arr off sz->iK I' w es arr off sz
 |[],_,_,_,_,_=>by simp[pY,oz]
 |e::es,arr,off,sz,hs,h=>by
  simp only[pY,oz]at h⊢
  exact⟨h.1,Zbs (hs e (by simp)) h.2.1,Qyd (λf hf=>hs f (by simp[hf])) h.2.2⟩
theorem VRep.Fi{c:Ctx}(h:cz c w d v):VRep c w d v:=by cases d<;>first|exact h|exact h.elim
theorem VRep.toC{c:Ctx}(hd:∀cs,d≠.agg cs)(h:VRep c w d v):cz c w d v:=by cases d<;>first|exact h|exact absurd rfl (hd _)
theorem Rep.KW{c:Ctx}(h:VRep c w d v):Rep c w d v:=by cases d<;>first|exact h|exact h.elim|trivial
theorem Rep.toV{c:Ctx}(hd:∀ds,d≠.dt ds)(h0:d≠.dead)(h:Rep c w d v):VRep c w d v:=by cases d<;>first|exact h|exact absurd rfl (hd _)|exact absurd rfl h0
theorem Z3n{f:Nat->Nat}{cy:Bool}:∀{e:List D},(D.mN f cy e).length=e.length
 |[]=>rfl
 |d::l=>by simp[D.mN,Z3n (e:=l)]
section
variable {S:Nat->Prop} {f:Nat->Nat} {cy:Bool} {c1 c2:Ctx} {w:World} (hn:EK S f cy c1 c2) {flat:Prop} (hI:(∀b,c1.I b->c2.I b)\/(flat/\∀b,c1.I b->c1.base<=b->c2.I b))
include hn hI
theorem Zjt(gv:∀f cs,d≠.gq f cs)(hS:∀r∈nU d,S r)(jY:flat->QV d)(h:cz c1 w d v):cz c2 w (d.mM f cy) v:=by
 cases d with
 |sl sz es fr=>
  obtain⟨a,cap,hv,hc,iq⟩:=h
  refine⟨a,cap,hv,hc,?_⟩
  rcases iq with iq|⟨b,off,arr,ty,fz,ha,iH,hf,hh,hE⟩
  ·exact .inl iq
  ·have hb:(fr&&cy)=true->c2.base<=b:=λe=>by
    simp only[aE]at e
    exact Nat.le_trans (hn.base e.2) (hf e.1)
   rcases hI with hi|⟨Gg,hi⟩
   ·exact .inr ⟨b,off,arr,ty,fz,ha,hi b iH,hb,hh,ou (λb hb=>⟨hi b hb,rfl⟩) _ _ _ _ hE⟩
   ·obtain⟨h1,h2⟩:=jY Gg
    rcases h1 with h1|h1
    ·exact .inl (ak.oD.1 h1)
    ·exact .inr ⟨b,off,arr,ty,fz,ha,hi b iH (hf h1),hb,hh,Qyd (ak.Dp h2) hE⟩
 |all r=>
  obtain⟨row,hr,hb,h⟩:=h
  obtain⟨ao,g1,g2,g3,g4,g5,g6,gV⟩:=hn.row r row (hS r (by simp[nU])) hr
  refine⟨ao,g1,g2.trans hb,?_⟩
  rcases h with⟨hV,hv⟩|⟨hV,cap,arr,hv,h1,h2,h3,h4⟩
  ·obtain⟨a,hv,ho⟩:=hv;exact .inl ⟨gV.2 hV,a,hv,ho.mono hn.top⟩
  ·exact .inr ⟨λe=>hV (gV.1 e),cap,arr,by rw[hv,g5,g6],by rw[g5];exact h1,h2,by rw[g6,g3];exact h3,by rw[g4];exact h4⟩
 |own r o n=>
  obtain⟨row,hr,hb,ho,h⟩:=h
  obtain⟨ao,g1,g2,g3,g4,g5,g6,gV⟩:=hn.row r row (hS r (by simp[nU])) hr
  refine⟨ao,g1,g2.trans hb,by rw[g5];exact ho,?_⟩
  rcases h with⟨h0,a,hv,jd⟩|⟨hV,cap,arr,h1,h2,h3,h4,h5⟩
  ·exact .inl ⟨h0,a,hv,jd.mono hn.top gV g6⟩
  ·exact .inr ⟨λe=>hV (gV.1 e),cap,arr,h1,h2,by rw[g6,g3];exact h3,by rw[g4,g6];exact h4,by rw[g4];exact h5⟩
 |ptr r i off=>
  obtain⟨row,hr,hV,hi,hv⟩:=h
  obtain⟨ao,g1,g2,g3,g4,g5,g6,gV⟩:=hn.row r row (hS r (by simp[nU])) hr
  exact⟨ao,g1,λe=>hV (gV.1 e),by rw[g5];exact hi,by rw[hv,g6,g4]⟩
 |pa r i off len k n=>
  obtain⟨bz,row,hr,hV,hi,hv⟩:=h
  obtain⟨ao,g1,g2,g3,g4,g5,g6,gV⟩:=hn.row r row (hS r (by simp[nU])) hr
  exact⟨bz,ao,g1,λe=>hV (gV.1 e),by rw[g5];exact hi,by rw[hv,g6,g4]⟩
 |iv sz es i off=>
  obtain⟨b,o,arr,ty,fz,hv,iH,iw,hh,hE⟩:=h
  rcases hI with hi|⟨Gg,hi⟩
  ·exact⟨b,o,arr,ty,fz,hv,hi b iH,iw,hh,ou (λb hb=>⟨hi b hb,rfl⟩) _ _ _ _ hE⟩
  ·exact(jY Gg).elim
 |c9 r=>
  rcases h with h|⟨row,hr,hV,hi,hv⟩
  ·exact .inl h
  ·obtain⟨ao,g1,g2,g3,g4,g5,g6,gV⟩:=hn.row r row (hS r (by simp[nU])) hr
   exact .inr ⟨ao,g1,λe=>hV (gV.1 e),by rw[g5];exact hi,by rw[hv,g6,g4]⟩
 |gq f cs=>exact absurd rfl (gv f cs)
 |emp=>obtain⟨a,hv,ho⟩:=h;exact⟨a,hv,ho.mono hn.top⟩
 |_=>exact h
theorem Zf1(hS:∀r∈nU d,S r)(jY:flat->QV d)(h:cz c1 w d v):cz c2 w (d.mM f cy) v:=by
 by_cases e:∃g cs,d=.gq g cs
 ·obtain⟨g,cs,rfl⟩:=e
  obtain⟨us,hv,hu⟩:=h
  have hi:∀b,c1.I b->c2.I b/\w.heap[b]?=w.heap[b]? :=by
   rcases hI with hi|⟨Gg,_⟩
   ·exactλb hb=>⟨hi b hb,rfl⟩
   ·exact(jY Gg).elim
  exact⟨us,MQ hi hv,Zde (Fk:=λ_=>True) (λd v h1 h2 h3=>Zjt hn (flat:=False) (.inl λb hb=>(hi b hb).1) h1 h2 (λe=>e.elim) h3) (λ_ _ _ _=>MQ hi) (λ_ _ _=>trivial) hS hu⟩
 ·exact Zjt hn hI (λf cs e'=>e ⟨f,cs,e'⟩) hS jY h
theorem Zp5:∀{ds:List D} {vs:List Value},(∀r∈rk ds,S r)->(flat->MV ds)->jq c1 w ds vs->jq c2 w (D.mN f cy ds) vs
 |[],[],_,_,_=>trivial
 |d::ds,v::vs,hS,jY,h=>⟨Zf1 hn hI (λr hr=>hS r (by simp[rk,hr])) (λe=>(jY e).1) h.1,Zp5 (λr hr=>hS r (by simp[rk,hr])) (λe=>(jY e).2) h.2⟩
 |[],_::_,_,_,h=>h.elim
 |_::_,[],_,_,h=>h.elim
theorem QW(hS:∀r∈Ga d,S r)(jY:flat->Vj d)(h:VRep c1 w d v):VRep c2 w (d.jk f cy) v:=by
 cases d with
 |agg cs=>obtain⟨vs,hv,hr⟩:=h;exact⟨vs,hv,Zp5 hn hI hS jY hr⟩
 |dt ds=>exact h.elim
 |_=>
  refine VRep.Fi (Zf1 hn hI ?_ ?_ (VRep.toC ?_ h))
  ·exact hS
  ·exact jY
  ·intro cs e;cases e
theorem Zqb:∀{ds:List D} {vs:List Value},(∀d∈ds,∀r∈Ga d,S r)->(flat->Gf ds)->kp c1 w ds vs->kp c2 w (D.Bn f cy ds) vs
 |[],[],_,_,_=>trivial
 |d::ds,v::vs,hS,jY,h=>⟨QW hn hI (hS d (by simp)) (λe=>(jY e).1) h.1,Zqb (λd hd=>hS d (by simp[hd])) (λe=>(jY e).2) h.2⟩
 |[],_::_,_,_,h=>h.elim
 |_::_,[],_,_,h=>h.elim
theorem ZY(hS:∀r,S r)(jY:flat->FF d)(h:Rep c1 w d v):Rep c2 w (d.tp f cy) v:=by
 cases d with
 |dt ds=>obtain⟨vs,hv,hr⟩:=h;exact⟨vs,hv,Zqb hn hI (λ_ _ r _=>hS r) jY hr⟩
 |agg cs=>exact QW hn hI (d:=.agg cs) (λr _=>hS r) jY h
 |dead=>trivial
 |_=>
  have h':=Rep.toV (λds e=>by cases e) (λe=>by cases e) h
  have h2:=QW hn hI (λr _=>hS r) (λe=>by have:=jY e;exact this) h'
  exact Rep.KW h2
theorem Vk:∀{ds:List D} {arr:Array Value} {off:Nat},(∀r∈rk ds,S r)->(flat->MV ds)->kU c1 w ds arr off->kU c2 w (D.mN f cy ds) arr off
 |[],_,_,_,_,_=>trivial
 |d::ds,arr,off,hS,jY,⟨⟨v,hv,h1⟩,h2⟩=>⟨⟨v,hv,Zf1 hn hI (λr hr=>hS r (by simp[rk,hr])) (λe=>(jY e).1) h1⟩,Vk (λr hr=>hS r (by simp[rk,hr])) (λe=>(jY e).2) h2⟩
theorem ZW{i j:Nat}(QP:c2.ρ j=c1.ρ i)(hV:c2.V j↔c1.V i)(hS:row.box=true->∀e,row.es=.gen [e]->∀r∈rk e,S r)(jY:flat->J7 row)(h:Fl c1 w i row):Fl c2 w j (row.jk f cy):=by
 have sh:(row.jk f cy).box=row.box/\(row.jk f cy).ty=row.ty/\(row.jk f cy).sz=row.sz:=by
  unfold Row.jk;split<;>exact⟨rfl,rfl,rfl⟩
 rcases h with⟨h0,h1,h2,h3⟩|⟨h0,arr,ha,hs,hx⟩
 ·refine .inl ⟨hV.2 h0,?_⟩
  unfold Row.jk
  split
  ·simp at h1
  ·exact⟨h1,h2,h3⟩
 ·refine .inr ⟨λe=>h0 (hV.1 e),arr,by rw[QP,sh.2.1];exact ha,by rw[sh.2.2];exact hs,?_⟩
  rw[sh.1,sh.2.2]
  split
  ·rename_i hb
   simp only[hb,if_true]at hx
   obtain⟨e,k1,k2,k3,k4⟩:=hx
   obtain⟨box,ty,sz,es⟩:=row
   simp only at hb k1 k2 k3 k4
   subst hb;subst k1
   refine⟨D.mN f cy e,rfl,?_,k3,Vk hn hI (hS rfl e rfl) (λe'=>?_) k4⟩
   ·rw[Z3n];exact k2
   ·have:=jY e'
    simp only[J7,if_true]at this
    exact this e (by simp[ak.l])
  ·rename_i hb
   simp only[hb,aN,if_false]at hx
   have he:(row.jk f cy).es=row.es:=by
    unfold Row.jk
    split
    ·simp at hb
    ·rfl
   rw[he]
   rcases hI with hi|⟨Gg,hi⟩
   ·exact ou (λb hb=>⟨hi b hb,rfl⟩) _ _ _ _ hx
   ·have:=jY Gg
    simp only[J7,hb,aN,if_false]at this
    exact Qyd (ak.Dp this) hx
end
def Ctx.pass(c:Ctx)(w:World)(ids:List Nat)(rows:List Row)(len:Bool):Ctx:=
 { ρ:=λi=>match ids[i]? with|some r=>c.ρ r|none=>0,R:=λi=>rows[i]?,V:=λi=>match ids[i]? with|some r=>c.V r|none=>False,
   I:=λb=>c.I b\/(len=true/\ ∃r row,c.R r=some row/\ ¬c.V r/\row.box=false/\r∉ids/\c.ρ r=b),base:=w.heap.size,top:=c.top,X:=λ_=>False}
section
variable {c:Ctx} {w:World} {R:Rows} {ids:List Nat} {eh:List Row} {len:Bool}
theorem Zq2(hm:Mem c w)(hA:mV c R)(h:F9 R d=some d')(hl:nU d≠[]->len=true)(hd:∀r∈nU d,r∉ids)(hr:cz c w d v):cz (c.pass w ids eh len) w d' v:=by
 have nK:∀b,c.I b->(c.pass w ids eh len).I b/\w.heap[b]?=w.heap[b]? :=λb hb=>⟨.inl hb,rfl⟩
 cases d<;>simp only[F9]at h<;>try(cases h;done)
 case bool b=>cases h;exact hr
 case int k n=>cases h;exact hr
 case str s=>cases h;exact hr
 case iO=>cases h;exact hr
 case jP=>cases h;exact hr
 case dx=>cases h;exact⟨none,0,hr,aO _,.inl rfl⟩
 case emp=>cases h;obtain⟨a,hv,_⟩:=hr;exact⟨a,0,hv,aO _,.inl rfl⟩
 case sl sz es fr=>
  cases h
  obtain⟨a,cap,hv,hc,iq⟩:=hr
  refine⟨a,cap,hv,hc,?_⟩
  rcases iq with iq|⟨b,off,arr,ty,fz,ha,hI,hf,hh,hE⟩
  ·exact .inl iq
  ·exact .inr ⟨b,off,arr,ty,fz,ha,.inl hI,by simp,hh,ou nK _ _ _ _ hE⟩
 case all r=>
  split at h
  ·rename_i row hR
   split at h
   ·rename_i hb
    cases h
    obtain⟨ao,g1,g2,hv⟩:=hr
    have:=hA r ao _ g1 hR
    subst this
    rcases hv with⟨hV,a,hv,_⟩|⟨hV,cap,arr,hv,g3,g4,g5,g6⟩
    ·have he:=(hm.ov g1 hV).2.1
     exact⟨a,0,by rw[he];exact hv,by rw[he];exact aO _,.inl he⟩
    refine⟨_,cap,hv,g3,?_⟩
    obtain⟨iQ,jG,hs,hx⟩:=hm.real g1 hV
    rw[g5]at jG;cases jG
    simp only[hb,aN,if_false]at hx
    exact .inr ⟨_,0,arr,_,_,rfl,.inr ⟨hl (by simp[nU]),r,_,g1,hV,hb,hd r (by simp[nU]),rfl⟩,by simp,g5,ou nK _ _ _ _ hx⟩
   ·cases h
  ·cases h
 case own r o n=>
  split at h
  ·rename_i row hR
   split at h
   ·rename_i hb
    cases h
    obtain⟨ao,g1,g2,g5,hv⟩:=hr
    have:=hA r ao _ g1 hR
    subst this
    have hlen:((ao.es.drop o).take n).l.length=n:=by rw[ak.je,ak.kC];simp only[List.length_take,List.length_drop];omega
    rcases hv with⟨g7,a,hv,_⟩|⟨hV,cap,arr,g3,g4,g6,hv,g7⟩
    ·subst g7
     exact⟨a,0,by rw[hlen];exact hv,by omega,.inl (by rw[ak.je];simp)⟩
    obtain⟨iQ,jG,hs,hx⟩:=hm.real g1 hV
    rw[g6]at jG;cases jG
    simp only[hb,aN,if_false]at hx
    refine⟨_,cap,by rw[hlen];exact hv,by omega,.inr ⟨_,o*ao.sz,arr,_,_,rfl,.inr ⟨hl (by simp[nU]),r,_,g1,hV,hb,hd r (by simp[nU]),rfl⟩,by simp,g6,ou nK _ _ _ _ ?_⟩⟩
    have:=MI (n:=n) (KS (l:=o) hx)
    rw[ak.je,ak.kC]
    simpa using this
   ·cases h
  ·cases h
theorem Zpf(hm:Mem c w)(hA:mV c R):∀{ds oB:List D} {vs:List Value},J2 R ds=some oB->(rk ds≠[]->len=true)->(∀r∈rk ds,r∉ids)->jq c w ds vs->jq (c.pass w ids eh len) w oB vs
 |[],oB,[],h,_,_,_=>by simp[J2]at h;subst h;trivial
 |[],_,_::_,_,_,_,hr=>hr.elim
 |_::_,_,[],_,_,_,hr=>hr.elim
 |d ::ds,oB,v::vs,h,hl,hd,hr=>by
  simp only[J2]at h
  split at h
  ·rename_i x xs h1 h2
   cases h
   exact⟨Zq2 hm hA h1 (λe=>hl (by simp[rk,e])) (λr e=>hd r (by simp[rk,e])) hr.1,Zpf hm hA h2 (λe=>hl (by simp[rk,e])) (λr e=>hd r (by simp[rk,e])) hr.2⟩
  ·cases h
theorem Zpq(hm:Mem c w)(hA:mV c R)(h:conv R d=some d')(hl:Ga d≠[]->len=true)(hd:∀r∈Ga d,r∉ids)(hr:Rep c w d v):VRep (c.pass w ids eh len) w d' v:=by
 cases d with
 |agg cs=>
  simp only[conv,Option.map_eq_some_iff]at h
  obtain⟨sd,h1,rfl⟩:=h
  obtain⟨vs,hv,hx⟩:=hr
  exact⟨vs,hv,Zpf hm hA h1 hl hd hx⟩
 |dt ds=>simp[conv,F9]at h
 |dead=>simp[conv,F9]at h
 |_=>
  simp only[conv]at h
  simp only[Rep,VRep]at hr
  exact VRep.Fi (Zq2 hm hA h hl hd hr)
theorem F8{f:Nat->Nat}:∀{ids:List Nat} {rows:List Row},BH R f ids=some rows->rows.length=ids.length/\∀(i r:Nat),ids[i]?=some r->∃row,R.getD r none=some row/\rows[i]?=some (row.jk f false)
 |[],rows,h=>by simp[BH]at h;subst h;exact⟨rfl,λi r h=>by simp at h⟩
 |r ::l,rows,h=>by
  simp only[BH]at h
  split at h
  ·rename_i row rs h1 h2
   cases h
   obtain⟨g1,g2⟩:=F8 h2
   refine⟨by simp[g1],λi q hq=>?_⟩
   cases i with
   |zero=>simp at hq;subst hq;exact⟨row,h1,rfl⟩
   |succ i=>exact g2 i q (by simpa using hq)
  ·cases h
theorem J0(f:Nat->Nat)(cy:Bool)(row:Row):(row.jk f cy).box=row.box/\(row.jk f cy).ty=row.ty/\(row.jk f cy).sz=row.sz/\(row.jk f cy).es.l.length=row.es.l.length:=by
 unfold Row.jk;split<;>exact⟨rfl,rfl,rfl,rfl⟩
theorem Z6l{r:Nat}:∀{l:List Nat},r∈Di R l↔ ∃q∈l,∃ty sz e,R.getD q none=some ⟨true,ty,sz,.gen [e]⟩/\r∈rk e
 |[]=>by simp[Di]
 |q ::l=>by
  simp only[Di,List.mem_append,Z6l (l:=l),cS]
  constructor
  ·rintro(h|⟨q',h1,h2⟩)
   ·split at h
    ·rename_i ty sz e he
     exact⟨q,.inl rfl,ty,sz,e,he,h⟩
    ·simp at h
   ·exact⟨q',.inr h1,h2⟩
  ·rintro⟨q',h1|h1,ty,sz,e,h2,h3⟩
   ·subst h1
    left
    rw[h2];exact h3
   ·exact .inr ⟨q',h1,ty,sz,e,h2,h3⟩
theorem UY(hR:∀r row,r∈ids->R.getD r none=some row->c.R r=some row)(c6:BH R (λr=>pos r ids 0) ids=some eh):EK (λr=>r∈ids) (λr=>pos r ids 0) false c (c.pass w ids eh len):=by
 obtain⟨hl,hg⟩:=F8 c6
 refine⟨λr row hr cq=>?_,(λh=>by cases h),aO _⟩
 have hp:=BI hr
 obtain⟨ka,h1,h2⟩:=hg _ r hp
 have:row=ka:=by have:=hR r ka hr h1;rw[cq]at this;exact Option.some.inj this
 subst this
 obtain⟨s1,s2,s3,s4⟩:=J0 (λr=>pos r ids 0) false row
 exact⟨_,h2,s1,s2,s3,s4,by simp[Ctx.pass,hp],by simp[Ctx.pass,hp]⟩
theorem ZX(hm:Mem c w)(hR:∀r row,r∈ids->R.getD r none=some row->c.R r=some row)(ly:ids.Nodup)(gl:∀r∈Di R ids,r∈ids)(c6:BH R (λr=>pos r ids 0) ids=some eh):Mem (c.pass w ids eh len) w:=by
 have hn:=UY (len:=len) (w:=w) hR c6
 obtain⟨hl,hg⟩:=F8 c6
 have inv:∀i x,(c.pass w ids eh len).R i=some x->∃r row,ids[i]?=some r/\c.R r=some row/\R.getD r none=some row/\x=row.jk (λr=>pos r ids 0) false/\(c.pass w ids eh len).ρ i=c.ρ r/\((c.pass w ids eh len).V i↔c.V r):=by
  intro i x hx
  have jI:eh[i]?=some x:=hx
  have bz:=(List.getElem?_eq_some_iff.1 jI).1
  have hi:ids[i]?=some ids[i]:=cG (by omega)
  obtain⟨row,h1,h2⟩:=hg i _ hi
  rw[jI]at h2
  exact⟨_,row,hi,hR _ row (fV hi) h1,h1,Option.some.inj h2,by simp[Ctx.pass,hi],by simp[Ctx.pass,hi]⟩
 refine⟨λi x hx=>?_,λi j x y hx hy v1 v2 he=>?_,λb hb=>?_,hm.top,hm.kY.mono λb hb=>⟨.inl hb,rfl⟩⟩
 ·obtain⟨r,row,g1,g2,g3,rfl,g5,g6⟩:=inv i x hx
  refine ZW hn (flat:=False) (.inl λb hb=>.inl hb) g5 g6 (λpz e he q hq=>?_) (λe=>e.elim) (hm.row r row g2)
  obtain⟨box,ty,sz,es⟩:=row
  simp only at pz he
  subst pz
  have h1:∃e0,es=.gen [e0]:=by
   rcases hm.row r _ g2 with⟨_,hh,_⟩|⟨_,arr,_,_,hx⟩
   ·cases hh
   ·simp only[if_true]at hx;obtain⟨e0,h,_⟩:=hx;exact⟨e0,h⟩
  obtain⟨e0,rfl⟩:=h1
  cases he
  exact gl q (Z6l.2 ⟨r,fV g1,ty,sz,e,g3,hq⟩)
 ·obtain⟨r,row,g1,g2,g3,_,g5,g6⟩:=inv i x hx
  obtain⟨s,ao,k1,k2,k3,_,k5,k6⟩:=inv j y hy
  rw[g5,k5]at he
  have:r=s:=hm.inj r s _ _ g2 k2 (λe=>v1 (g6.2 e)) (λe=>v2 (k6.2 e)) he
  subst this
  exact(List.getElem?_inj (List.getElem?_eq_some_iff.1 g1).1 ly).1 (g1.trans k1.symm)
 ·rcases hb with hb|⟨_,r,row,hr,hV,Ad,IU,rfl⟩
  ·refine⟨(hm.fu b hb).1,λi x hx v=>?_⟩
   obtain⟨r,row,g1,g2,g3,_,g5,g6⟩:=inv i x hx
   rw[g5];exact(hm.fu b hb).2 r row g2 (λe=>v (g6.2 e))
  ·refine⟨hm.lt hr hV,λi x hx v=>?_⟩
   obtain⟨s,ao,g1,g2,g3,_,g5,g6⟩:=inv i x hx
   rw[g5]
   intro e
   have:=hm.inj s r _ _ g2 hr (λe=>v (g6.2 e)) hV e
   subst this
   exact IU (fV g1)
theorem MO(hm:Mem c w)(hA:mV c R)(hn:EK (λr=>r∈ids) (λr=>pos r ids 0) false c (c.pass w ids eh len)){ρ:Operand->Value}{ev:Operand->D}:
 ∀{bs:List Bool} {xs:List Operand} {oB:List D},th R (λr=>pos r ids 0) bs (xs.map ev)=some oB->(lW bs (xs.map ev)≠[]->len=true)->(∀r∈lW bs (xs.map ev),r∉ids)->(∀r∈Dq bs (xs.map ev),r∈ids)->(∀x∈xs,Rep c w (ev x) (ρ x))->kp (c.pass w ids eh len) w oB (xs.map ρ)
 |bs,[],oB,h,_,_,_,_=>by cases bs<;>(try(rename_i b bs;cases b))<;>(simp[th]at h;subst h;trivial)
 |true::bs,x::xs,oB,h,hl,hd,hi,hr=>by
  simp only[fQ,th]at h
  simp only[fQ,lW,Dq]at hl hd hi
  split at h
  ·rename_i ys hv h2
   cases h
   have hx:VRep c w (ev x) (ρ x):=Rep.toV (λds e=>by rw[e]at hv;simp[D.isVal]at hv) (λe=>by rw[e]at hv;simp[D.isVal]at hv) (hr x (by simp))
   exact⟨QW hn (flat:=False) (.inl λb hb=>.inl hb) (λr e=>hi r (by simp[e])) (λe=>e.elim) hx,MO hm hA hn h2 hl hd (λr e=>hi r (by simp[e])) λy hy=>hr y (by simp[hy])⟩
  ·cases h
 |false::bs,x::xs,oB,h,hl,hd,hi,hr=>by
  simp only[fQ,th]at h
  simp only[fQ,lW,Dq]at hl hd hi
  split at h
  ·rename_i y ys h1 h2
   cases h
   exact⟨Zpq hm hA h1 (λe=>hl (by simp[e])) (λr e=>hd r (by simp[e])) (hr x (by simp)),MO hm hA hn h2 (λe=>hl (by simp[e])) (λr e=>hd r (by simp[e])) hi λy hy=>hr y (by simp[hy])⟩
  ·cases h
 |[],x::xs,oB,h,hl,hd,hi,hr=>by
  simp only[fQ,th]at h
  simp only[fQ,lW,Dq]at hl hd hi
  split at h
  ·rename_i y ys h1 h2
   cases h
   refine⟨Zpq hm hA h1 (λe=>hl (by simp[e])) (λr e=>hd r (by simp[e])) (hr x (by simp)),MO hm hA hn h2 (λe=>hl (by simp[e])) (λr e=>hd r (by simp[e])) (λr e=>?_) λy hy=>hr y (by simp[hy])⟩
   cases xs<;>simp[Dq]at e
  ·cases h
end
theorem Vl{f:Nat->Nat}:∀{ids:List Nat} {rows:List Row} {R:Rows},ids.Nodup->ids.length<=rows.length->(∀r∈ids,r<R.length)->
 (ud f ids rows R).length=R.length/\(∀(i r:Nat),ids[i]?=some r->∃row,rows[i]?=some row/\(ud f ids rows R).getD r none=some (row.jk f true))/\∀r,r∉ids->(ud f ids rows R).getD r none=R.getD r none
 |[],rows,R,_,_,_=>by
  have:ud f [] rows R=R:=by cases rows<;>rfl
  rw[this]
  exact⟨rfl,λi r h=>by simp at h,λ_ _=>rfl⟩
 |r::ids,[],R,_,hl,_=>by simp at hl
 |r ::ids,row::rows,R,ly,hl,bz=>by
  obtain⟨IU,JZ⟩:=List.nodup_cons.1 ly
  obtain⟨g1,g2,g3⟩:=Vl (f:=f) (ids:=ids) (rows:=rows) (R:=R.set r (some (row.jk f true))) JZ (by simpa using hl) (λq hq=>by simpa using bz q (by simp[hq]))
  have hr:=bz r (by simp)
  have ZS:(R.set r (some (row.jk f true))).getD r none=some (row.jk f true):=by simp[aK,hr]
  have gv:∀q,q≠r->(R.set r (some (row.jk f true))).getD q none=R.getD q none:=λq hq=>by simp[aK,List.getElem?_set_ne (Ne.symm hq)]
  simp only[ud]
  refine⟨by simpa using g1,λi q hq=>?_,λq hq=>?_⟩
  ·cases i with
   |zero=>
    simp at hq;subst hq
    exact⟨row,rfl,by rw[g3 _ IU];exact ZS⟩
   |succ i=>simpa using g2 i q (by simpa using hq)
  ·have h1:q≠r:=λe=>hq (by simp[e])
   rw[g3 q (λe=>hq (by simp[e])),gv q h1]
def Ctx.behind(c:Ctx)(w:World)(c':Ctx)(ids:List Nat)(n0:Nat)(R2:Rows):Ctx:=
 { ρ:=λr=>if n0<=r/\r<R2.length then c'.ρ (ids.length+(r-n0)) else c.ρ r,
   R:=λr=>if r∈ids\/(n0<=r/\r<R2.length) then R2.getD r none else c.R r,
   V:=λr=>if n0<=r/\r<R2.length then c'.V (ids.length+(r-n0)) else c.V r,
   I:=λb=>c.I b\/(c'.I b/\w.heap.size<=b),base:=c.base,top:=c'.top,X:=c.X}
theorem Znr{f:Nat->Nat}{rows:List Row}:(BM f rows)[i]?=rows[i]?.map λrow=>some (row.jk f true):=by simp[BM]
theorem Z46{c c':Ctx}{R:Rows}{ids:List Nat}{eh aj:List Row}{len:Bool}(hm:Mem c w)(hb:c.base<=w.heap.size)(od:∀r row,r∈ids->R.getD r none=some row->c.R r=some row)(fk:∀r,R.length<=r->r<R.length+(aj.length-ids.length)->c.R r=none)
 (ly:ids.Nodup) (c6:BH R (λr=>pos r ids 0) ids=some eh) (hle:ids.length<=aj.length) (hx:lY (c.pass w ids eh len) w c' w') (j7:∀i,c'.R i=aj[i]?)
 (hI:len=true->rR aj) {R2:Rows} (uZ:R2=ud (bk ids R.length) ids aj R++BM (bk ids R.length) (aj.drop ids.length)):
 (EK (λ_=>True) (bk ids R.length) true c' (c.behind w c' ids R.length R2))/\((∀b,c'.I b->(c.behind w c' ids R.length R2).I b)\/(len=true/\∀b,c'.I b->c'.base<=b->(c.behind w c' ids R.length R2).I b))/\
 Mem (c.behind w c' ids R.length R2) w'/\jn c w (c.behind w c' ids R.length R2) w'/\Fr (λb=>∃r x,c.R r=some x/\¬c.V r/\r∈ids/\c.ρ r=b) w w'/\
 (∀b,(c.behind w c' ids R.length R2).I b->c.I b\/w.heap.size<=b)/\
 (∀r,R.length<=r->r<R2.length->¬(c.behind w c' ids R.length R2).V r->w.heap.size<=(c.behind w c' ids R.length R2).ρ r):=by
 obtain⟨gl,Bh⟩:=F8 c6
 have bz:∀r∈ids,r<R.length:=λr hr=>by
  obtain⟨row,h1,_⟩:=Bh _ r (BI hr)
  by_cases hl:r<R.length
  ·exact hl
  ·rw[aK,aM (by omega)]at h1;cases h1
 obtain⟨k1,k2,k3⟩:=Vl (f:=bk ids R.length) ly hle bz
 have wG:R2.length=R.length+(aj.length-ids.length):=by rw[uZ];simp[k1,BM]
 have QK:∀r,r<R.length->R2.getD r none=(ud (bk ids R.length) ids aj R).getD r none:=λr hr=>by
  rw[uZ,aK,aK,aZ (by omega)]
 have ZV:∀i,ids.length<=i->i<aj.length->R2.getD (R.length+(i-ids.length)) none=aj[i]?.map λrow=>row.jk (bk ids R.length) true:=λi h1 h2=>by
  rw[uZ,aK,List.getElem?_append_right (by omega),Znr,k1,show R.length+(i-ids.length)-R.length=i-ids.length by omega,fS,show ids.length+(i-ids.length)=i by omega]
  rw[cG h2];rfl
 have jm:c'.base=w.heap.size:=hx.cg.base
 have jE:∀i r ao,ids[i]?=some r->c'.R i=some ao->∃row,c.R r=some row/\ao.box=row.box/\ao.ty=row.ty/\ao.sz=row.sz/\ao.es.l.length=row.es.l.length/\c'.ρ i=c.ρ r/\(c'.V i↔c.V r)/\r<R.length/\R2.getD r none=some (ao.jk (bk ids R.length) true)/\bk ids R.length i=r/\
  (¬c.V r->∀arr,w.heap[c.ρ r]?=some (.cells arr row.ty (0,0))->∃iQ,w'.heap[c.ρ r]?=some (.cells iQ row.ty (0,0))/\iQ.size=arr.size):=by
  intro i r ao hi jo
  obtain⟨row,h1,h2⟩:=Bh i r hi
  have jS:=fV hi
  have h3:=od r row jS h1
  obtain⟨oF,g1,g2,g3,g4,g5,g6,gV,g7⟩:=hx.cg.R i _ (show(c.pass w ids eh len).R i=some _ from h2)
  rw[jo]at g1;cases g1
  obtain⟨s1,s2,s3,s4⟩:=J0 (λr=>pos r ids 0) false row
  obtain⟨lq,q1,q2⟩:=k2 i r hi
  rw[j7,q1]at jo;cases jo
  refine⟨row,h3,g2.trans s1,g3.trans s2,g4.trans s3,g5.trans s4,by simpa[Ctx.pass,hi]using g6,by simpa[Ctx.pass,hi]using gV,bz r jS,by rw[QK r (bz r jS)];exact q2,by simp[bk,hi],λnv arr ha=>?_⟩
  have:=g7 (by simpa[Ctx.pass,hi]using nv) arr (by simpa[Ctx.pass,hi,s2]using ha)
  simpa[Ctx.pass,hi,s2]using this
 have fresh:∀i ao,ids.length<=i->c'.R i=some ao->i<aj.length/\R2.getD (R.length+(i-ids.length)) none=some (ao.jk (bk ids R.length) true)/\bk ids R.length i=R.length+(i-ids.length)/\(¬c'.V i->w.heap.size<=c'.ρ i):=by
  intro i ao hi jo
  have h1:aj[i]?=some ao:=by rw[<-j7];exact jo
  have h2:=(List.getElem?_eq_some_iff.1 h1).1
  refine⟨h2,by rw[ZV i hi h2,h1];rfl,by simp[bk,aM hi],λnv=>?_⟩
  rcases hx.oy i ao jo nv with⟨⟨x,nP⟩,_⟩|h3
  ·have:eh[i]?=some x:=nP
   rw[aM (by omega)]at this;cases this
  ·exact h3
 have Dg:EK (λ_=>True) (bk ids R.length) true c' (c.behind w c' ids R.length R2):=by
  refine⟨λi ao _ jo=>?_,λ_=>by rw[jm];exact hb,aO _⟩
  obtain⟨s1,s2,s3,s4⟩:=J0 (bk ids R.length) true ao
  by_cases hi:i<ids.length
  ·have iw:ids[i]?=some ids[i]:=cG hi
   obtain⟨row,g1,g2,g3,g4,g5,g6,g7,g8,g9,g10,_⟩:=jE i _ ao iw jo
   rw[g10]
   exact⟨_,by simp only[Ctx.behind];rw[if_pos (.inl (fV iw))];exact g9,s1,s2,s3,s4,by simp only[Ctx.behind];rw[if_neg (by omega),g6],by simp only[Ctx.behind];rw[if_neg (by omega)];exact g7.symm⟩
  ·obtain⟨h1,h2,h3,h4⟩:=fresh i ao (by omega) jo
   rw[h3]
   have hc:R.length<=R.length+(i-ids.length)/\R.length+(i-ids.length)<R2.length:=by omega
   have he:ids.length+(R.length+(i-ids.length)-R.length)=i:=by omega
   exact⟨_,by simp only[Ctx.behind];rw[if_pos (.inr hc)];exact h2,s1,s2,s3,s4,by simp only[Ctx.behind];rw[if_pos hc,he],by simp only[Ctx.behind];rw[if_pos hc,he]⟩
 have Dr:(∀b,c'.I b->(c.behind w c' ids R.length R2).I b)\/(len=true/\∀b,c'.I b->c'.base<=b->(c.behind w c' ids R.length R2).I b):=by
  cases hl:len with
  |false=>
   refine .inl λb iH=>?_
   rcases hx.fu b iH with h1|h1
   ·rcases h1 with h1|⟨h1,_⟩
    ·exact .inl h1
    ·rw[hl]at h1;cases h1
   ·exact .inr ⟨iH,h1⟩
  |true=>exact .inr ⟨rfl,λb iH hbb=>.inr ⟨iH,by omega⟩⟩
 have Cq:Fr (λb=>∃r x,c.R r=some x/\¬c.V r/\r∈ids/\c.ρ r=b) w w':=hx.fr.mono λb _ ⟨i,x,h1,h2,h3⟩=>by
  have ng:eh[i]?=some x:=h1
  have hi:i<ids.length:=by have:=(List.getElem?_eq_some_iff.1 ng).1;omega
  have iw:ids[i]?=some ids[i]:=cG hi
  obtain⟨row,g1,g2⟩:=Bh i _ iw
  exact⟨_,row,od _ row (fV iw) g1,by simpa[Ctx.pass,iw]using h2,fV iw,by simpa[Ctx.pass,iw]using h3⟩
 have inv:∀r x,(c.behind w c' ids R.length R2).R r=some x->(∃i ao,c'.R i=some ao/\x=ao.jk (bk ids R.length) true/\(c.behind w c' ids R.length R2).ρ r=c'.ρ i/\((c.behind w c' ids R.length R2).V r↔c'.V i)/\(r∈ids/\ids[i]?=some r/\(c.behind w c' ids R.length R2).ρ r=c.ρ r/\((c.behind w c' ids R.length R2).V r↔c.V r)\/R.length<=r/\ids.length<=i/\r=R.length+(i-ids.length)))\/
  (c.R r=some x/\r∉ids/\(c.behind w c' ids R.length R2).ρ r=c.ρ r/\((c.behind w c' ids R.length R2).V r↔c.V r)/\¬(R.length<=r/\r<R2.length)):=by
  intro r x jI
  by_cases jS:r∈ids
  ·left
   have hp:=BI jS
   obtain⟨lq,q1,q2⟩:=k2 _ r hp
   have rM:c'.R (pos r ids 0)=some lq:=by rw[j7];exact q1
   obtain⟨row,g1,g2,g3,g4,g5,g6,g7,g8,g9,g10,_⟩:=jE _ r lq hp rM
   simp only[Ctx.behind]at jI
   rw[if_pos (.inl jS),g9]at jI
   cases jI
   have e1:(c.behind w c' ids R.length R2).ρ r=c.ρ r:=by simp only[Ctx.behind];rw[if_neg (by omega)]
   have e2:(c.behind w c' ids R.length R2).V r↔c.V r:=by simp only[Ctx.behind];rw[if_neg (by omega)]
   exact⟨_,lq,rM,rfl,by rw[e1,g6],by rw[e2,g7],.inl ⟨jS,hp,e1,e2⟩⟩
  ·by_cases hc:R.length<=r/\r<R2.length
   ·left
    have hi:ids.length+(r-R.length)<aj.length:=by omega
    have rM:c'.R (ids.length+(r-R.length))=some aj[ids.length+(r-R.length)]:=by rw[j7];exact cG hi
    obtain⟨h1,h2,h3,h4⟩:=fresh _ _ (by omega) rM
    simp only[Ctx.behind]at jI
    rw[if_pos (.inr hc)]at jI
    rw[show R.length+(ids.length+(r-R.length)-ids.length)=r by omega]at h2
    rw[h2]at jI
    cases jI
    exact⟨_,_,rM,rfl,by simp only[Ctx.behind];rw[if_pos hc],by simp only[Ctx.behind];rw[if_pos hc],.inr ⟨hc.1,by omega,by omega⟩⟩
   ·right
    simp only[Ctx.behind]at jI
    rw[if_neg (by rintro(h|h)<;>contradiction)]at jI
    exact⟨jI,jS,by simp only[Ctx.behind];rw[if_neg hc],by simp only[Ctx.behind];rw[if_neg hc],hc⟩
 have rj:jn c w (c.behind w c' ids R.length R2) w':=by
  refine⟨rfl,hx.cg.top,λb iH=>⟨.inl iH,?_⟩,λr row hr=>?_⟩
  ·exact(hx.cg.I b (.inl iH)).2
  ·by_cases jS:r∈ids
   ·have hp:=BI jS
    obtain⟨lq,q1,q2⟩:=k2 _ r hp
    have rM:c'.R (pos r ids 0)=some lq:=by rw[j7];exact q1
    obtain⟨ka,g1,g2,g3,g4,g5,g6,g7,g8,g9,g10,g11⟩:=jE _ r lq hp rM
    rw[hr]at g1;cases g1
    obtain⟨s1,s2,s3,s4⟩:=J0 (bk ids R.length) true lq
    exact⟨_,by simp only[Ctx.behind];rw[if_pos (.inl jS)];exact g9,s1.trans g2,s2.trans g3,s3.trans g4,s4.trans g5,by simp only[Ctx.behind];rw[if_neg (by omega)],by simp only[Ctx.behind];rw[if_neg (by omega)],g11⟩
   ·have hc:¬(R.length<=r/\r<R2.length):=λhc=>by rw[fk r hc.1 (by omega)]at hr;cases hr
    refine⟨row,by simp only[Ctx.behind];rw[if_neg (by rintro(h|h)<;>contradiction)];exact hr,rfl,rfl,rfl,rfl,by simp only[Ctx.behind];rw[if_neg hc],by simp only[Ctx.behind];rw[if_neg hc],λnv arr ha=>⟨arr,?_,rfl⟩⟩
    rw[Cq.heap _ (hm.lt hr nv) fun⟨s,x,h1,h2,h3,h4⟩=>jS (by rw[<-hm.inj s r x row h1 hr h2 nv h4];exact h3)]
    exact ha
 refine⟨Dg,Dr,⟨λr x jI=>?_,λr s x y hr hs v1 v2 he=>?_,λb iH=>?_,hx.mem.top,hm.kY.mono rj.I⟩,rj,Cq,λb iH=>?_,λr h1 h2 h3=>?_⟩
 ·rcases inv r x jI with⟨i,ao,h1,rfl,h3,h4,_⟩|⟨h1,h2,h3,h4,h5⟩
  ·refine ZW Dg Dr h3 h4 (λ_ _ _ _ _=>trivial) (λhf=>?_) (hx.mem.row i ao h1)
   exact Zp3 (hI hf) (by rw[<-j7];exact h1)
  ·exact um rj h3 h4 (λnv=>Cq.heap _ (hm.lt h1 nv) fun⟨s,x',g1,g2,g3,g4⟩=>h2 (by rw[<-hm.inj s r x' x g1 h1 g2 nv g4];exact g3)) (hm.row r x h1)
 ·have HP:∀i ao,c'.R i=some ao->¬c'.V i->(∃q,q∈ids/\ids[i]?=some q/\(∃y,c.R q=some y)/\¬c.V q/\c'.ρ i=c.ρ q)\/w.heap.size<=c'.ρ i:=λi ao h1 nv=>by
   by_cases hi:i<ids.length
   ·have iw:ids[i]?=some ids[i]:=cG hi
    obtain⟨row,g1,g2,g3,g4,g5,g6,g7,_⟩:=jE i _ ao iw h1
    exact .inl ⟨_,fV iw,iw,⟨row,g1⟩,λe=>nv (g7.2 e),g6⟩
   ·exact .inr ((fresh i ao (by omega) h1).2.2.2 nv)
  rcases inv r x hr with⟨i,x',h1,_,h3,h4,h5⟩|⟨h1,h2,h3,h4,h5⟩<;>rcases inv s y hs with⟨j,y',g1,_,g3,g4,g5⟩|⟨g1,g2,g3,g4,g5⟩
  ·have:i=j:=hx.mem.inj i j x' y' h1 g1 (λe=>v1 (h4.2 e)) (λe=>v2 (g4.2 e)) (by rw[<-h3,<-g3];exact he)
   subst this
   rcases h5 with⟨_,q1,_⟩|⟨_,q1,q2⟩<;>rcases g5 with⟨_,p1,_⟩|⟨_,p1,p2⟩
   ·rw[q1]at p1;exact Option.some.inj p1
   ·have:=(List.getElem?_eq_some_iff.1 q1).1;omega
   ·have:=(List.getElem?_eq_some_iff.1 p1).1;omega
   ·omega
  ·exfalso
   have nv:=λe=>v1 (h4.2 e)
   have ns:=λe=>v2 (g4.2 e)
   rw[h3,g3]at he
   rcases HP i x' h1 nv with⟨q,q1,q2,⟨z,q3⟩,q4,q5⟩|q
   ·exact g2 (by rw[<-hm.inj q s z y q3 g1 q4 ns (by rw[<-q5];exact he)];exact q1)
   ·have:=hm.lt g1 ns;omega
  ·exfalso
   have nv:=λe=>v2 (g4.2 e)
   have ns:=λe=>v1 (h4.2 e)
   rw[h3,g3]at he
   rcases HP j y' g1 nv with⟨q,q1,q2,⟨z,q3⟩,q4,q5⟩|q
   ·exact h2 (by rw[<-hm.inj q r z x q3 h1 q4 ns (by rw[<-q5];exact he.symm)];exact q1)
   ·have:=hm.lt h1 ns;omega
  ·exact hm.inj r s x y h1 g1 (λe=>v1 (h4.2 e)) (λe=>v2 (g4.2 e)) (by rw[<-h3,<-g3];exact he)
 ·rcases iH with iH|⟨iH,pV⟩
  ·refine⟨Nat.lt_of_lt_of_le (hm.fu b iH).1 Cq.size,λr x hr v=>?_⟩
   rcases inv r x hr with⟨i,x',h1,_,h3,h4,h5⟩|⟨h1,h2,h3,h4,h5⟩
   ·have:=(hx.mem.fu b ((hx.cg.I b (.inl iH)).1)).2 i x' h1 (λe=>v (h4.2 e))
    rw[h3];exact this
   ·rw[h3];exact(hm.fu b iH).2 r x h1 (λe=>v (h4.2 e))
  ·refine⟨(hx.mem.fu b iH).1,λr x hr v=>?_⟩
   rcases inv r x hr with⟨i,x',h1,_,h3,h4,h5⟩|⟨h1,h2,h3,h4,h5⟩
   ·rw[h3];exact(hx.mem.fu b iH).2 i x' h1 (λe=>v (h4.2 e))
   ·have:=hm.lt h1 (λe=>v (h4.2 e))
    rw[h3];omega
 ·rcases iH with h|⟨_,h⟩
  ·exact .inl h
  ·exact .inr h
 ·have hi:ids.length+(r-R.length)<aj.length:=by omega
  have rM:c'.R (ids.length+(r-R.length))=some aj[ids.length+(r-R.length)]:=by rw[j7];exact cG hi
  obtain⟨_,_,_,h4⟩:=fresh _ _ (by omega) rM
  simp only[Ctx.behind,if_pos (show R.length<=r/\r<R2.length from⟨h1,h2⟩)]at h3⊢
  exact h4 h3
theorem Qzs(args:List D):Dq [] args=[]:=by cases args<;>rfl
theorem Zkj(R:Rows)(args:List D):mL R [] args=[]:=by
 unfold mL;rw[Qzs];rfl
theorem ZZ{x:bf}(dz:bj P x){f:FuncId}(hf:x.f=f)(hy:x.f<YB){pos:String}{guard:Option (Nat×Bool)}
 (h:Calls P x.f (args.toList.map a.eval).toArray w λe w'=>∃v,e=.returned v/\K (a.put dst v) w'):(⟨dst,.call ⟨.value (.func f),args,dh⟩,type,pos,after,guard⟩:Oper).nw P a w K Q:=by
 have il:(execOp a.eval (⟨dst,.call ⟨.value (.func f),args,dh⟩,type,pos,after,guard⟩:Oper)).run P w=.ok (.enter f (args.toList.map a.eval).toArray) w:=by
  simp only[execOp,resolve,Act.eval,Deferred.ofValue,Sem.run_bind,Sem.run_pure,Result.andThen_ok,invoke,Array.empty_append,Array.append_empty]
  rw[<-hf,dz.enters hy,<-bR,bS]
 unfold Oper.nw
 rw[il]
 show Calls P f _ w _
 rw[<-hf]
 exact h
theorem zS (hG:j5 P G){f:FuncId}{guard:Option (Nat×Bool)}{R:Rows}{K:D->Rows->Prop}
    (mb:pq G f=none) (h:tq G f (args.toList.map ev) R K): ∃val R' x,K val R'/\oZ G f=some x/\Fj P ⟨dst, .call ⟨.value (.func f),args,dh⟩,type,pos',after,guard⟩ ev R val R'/\(x.refs=[]->pW P ⟨dst, .call ⟨.value (.func f),args,dh⟩,type,pos',after,guard⟩ ev R val R'):=by
  unfold tq at h
  split at h
  . rename_i x hx
    have wK:x.gone=none:=by simpa [pq,hx] using mb
    obtain⟨dz,hf⟩:=GC hG hx
    split at h
    . rename_i az eh has iX
      simp only[db,Bool.or_eq_true,aE]at h
      obtain⟨⟨⟨Gg,h1,h2⟩,h3,h4⟩,h⟩:=h
      generalize J1:mL R x.refs (args.toList.map ev)=ids at*
      have u5:=MM.1 h1
      have gl:=MM.1 h2
      have ly:=MN.1 h3
      have oO:=UR.1 h4
      have main : ∀res aj,ids.length<=aj.length->K (res.tp (bk ids R.length) true) (ud (bk ids R.length) ids aj R++BM (bk ids R.length) (aj.drop ids.length))->kr P x.f az eh res aj->(x.flat=true->FF res/\rR aj)->
          ∃val R' y,K val R'/\oZ G f=some y/\Fj P ⟨dst, .call ⟨.value (.func f),args,dh⟩,type,pos',after,guard⟩ ev R val R'/\(y.refs=[]->pW P ⟨dst, .call ⟨.value (.func f),args,dh⟩,type,pos',after,guard⟩ ev R val R'):=by
        intro res aj hle hK hA jY
        let len:=match lW x.refs (args.toList.map ev) with|[]=>false|_=>true
        have hlen:lW x.refs (args.toList.map ev)≠[]->len=true:=by
          intro gv
          show(match lW x.refs (args.toList.map ev) with|[]=>false|_=>true)=true
          split
          . contradiction
          . rfl
        have Ai:len=true->x.flat=true:=by
          intro hl
          rcases Gg with h|h
          . exact h.1
          . exfalso
            have hl:(match lW x.refs (args.toList.map ev) with|[]=>false|_=>true)=true:=hl
            split at h
            . rename_i e;rw[e]at hl;cases hl
            . cases h
        have core: ∀(c:Ctx) (w:World) (a:Act),Mem c w->c.base<=w.heap.size->mV c R->(∀r row,r∈ids->R.getD r none=some row->c.R r=some row)->(∀r,R.length<=r->r<R.length+(aj.length-ids.length)->c.R r=none)->(∀y∈args.toList,Rep c w (ev y) (a.eval y))->
            ∀(K':Act->World->Prop) (Q:Exit->Act->World->Prop),(∀v w' c',lY (c.pass w ids eh len) w c' w'->(∀i,c'.R i=aj[i]?)->Rep (c.behind w c' ids R.length (ud (bk ids R.length) ids aj R++BM (bk ids R.length) (aj.drop ids.length))) w' (res.tp (bk ids R.length) true) v->K' (a.put dst v) w')->
            (⟨dst, .call ⟨.value (.func f),args,dh⟩,type,pos',after,guard⟩:Oper).nw P a w K' Q:=by
          intro c w a hm hb pn od fk fh K' Q rC
          have hn:=UY (len:=len) (w:=w) od iX
          have gb:=MO (len:=len) (ρ:=a.eval) hm pn hn has hlen oO u5 fh
          have mF:=hA (c.pass w ids eh len) w _ (ZX hm od ly gl iX) rfl (λr=>rfl) gb
          refine ZZ dz hf (dz.real wK) (mF.mono λe w' tg=> ?_)
          obtain⟨v,c',he,nJ,j7,lg⟩:=tg
          obtain⟨g1,g2,_⟩:=Z46 hm hb od fk ly iX hle nJ j7 (λe=>(jY (Ai e)).2) rfl
          exact⟨v,he,rC v w' c' nJ j7 (ZY g1 g2 (λ_=>trivial) (λe=>(jY (Ai e)).1) lg)⟩
        have gz: ∀(c:Ctx) (w:World) (a:Act),(∀y∈(⟨dst, .call ⟨.value (.func f),args,dh⟩,type,pos',after,guard⟩:Oper).op.operands,Rep c w (ev y) (a.eval y))-> ∀y∈args.toList,Rep c w (ev y) (a.eval y):=λc w a fh y hy=>fh y (by simp [Op.operands,Call.operands];exact .inr (by simpa using hy))
        refine⟨_,_,x,hK,hx,λc w a hm hb hR fh K' Q rC=> ?_,λhrefs=> ?_⟩
        . have pn:mV c R:=λr row ao g1 g2=>by rw[hR,g2]at g1;exact(Option.some.inj g1).symm
          have od: ∀r row,r∈ids->R.getD r none=some row->c.R r=some row:=λr row _ e=>by rw[hR];exact e
          have fk: ∀r,R.length<=r->r<R.length+(aj.length-ids.length)->c.R r=none:=λr e _=>by rw[hR,aK,aM e];rfl
          refine core c w a hm hb pn od fk (gz c w a fh) K' Q λv w' c' nJ j7 lg=> ?_
          obtain⟨g1,g2,g3,g4,g5,g6,g7⟩:=Z46 hm hb od fk ly iX hle nJ j7 (λe=>(jY (Ai e)).2) rfl
          have wG:(ud (bk ids R.length) ids aj R).length=R.length:=(Vl ly hle (λr hr=>by
            obtain⟨row,q1,_⟩:=(F8 iX).2 _ r (BI hr)
            by_cases hl:r<R.length
            . exact hl
            . rw[aK,aM (by omega)]at q1;cases q1)).1
          have ja:=Vl (f:=bk ids R.length) ly hle (λr hr=>by
            obtain⟨row,q1,_⟩:=(F8 iX).2 _ r (BI hr)
            by_cases hl:r<R.length
            . exact hl
            . rw[aK,aM (by omega)]at q1;cases q1)
          refine rC v w' _ ⟨g3,g4,g5.mono λb _ ⟨r,y,k1,k2,_,k4⟩=>⟨r,y,k1,k2,k4⟩,g6,λr ao hr hv=> ?_⟩ (λr=> ?_) lg
          . by_cases hc:R.length<=r/\r<(ud (bk ids R.length) ids aj R++BM (bk ids R.length) (aj.drop ids.length)).length
            . exact .inr (g7 r hc.1 hc.2 hv)
            . left
              simp only[Ctx.behind,if_neg hc]at hv⊢
              refine⟨?_,hv,trivial⟩
              simp only[Ctx.behind]at hr
              split at hr
              . rename_i HQ
                rcases HQ with HQ|HQ
                . obtain⟨row,q1,_⟩:=(F8 iX).2 _ r (BI HQ)
                  exact⟨row,od r row HQ q1⟩
                . contradiction
              . exact⟨_,hr⟩
          . simp only[Ctx.behind]
            split
            . rfl
            . rename_i HQ
              have h1:r∉ids:=λe=>HQ (.inl e)
              by_cases bz:r<R.length
              . rw[aK,aZ (by omega),<-aK,ja.2.2 r h1,hR]
              . rw[hR,aK,aM (by omega),aK,aM (by
                  by_cases h2:r<(ud (bk ids R.length) ids aj R++BM (bk ids R.length) (aj.drop ids.length)).length
                  . exact(HQ (.inr ⟨by omega,h2⟩)).elim
                  . omega)]
        . have QX:ids=[]:=by rw[<-J1,hrefs];exact Zkj R _
          subst QX
          have rF:ud (bk [] R.length) [] aj R=R:=by cases aj<;>rfl
          rw[rF]
          simp only[dJ,gA]at*
          refine⟨⟨_,rfl⟩,λc w a hm hb pn fk fh K' Q rC=> ?_⟩
          have od: ∀r row,r∈([]:List Nat)->R.getD r none=some row->c.R r=some row:=λr row e=>by cases e
          have HR: ∀r,R.length<=r->r<R.length+(aj.length-0)->c.R r=none:=λr e1 e2=>fk r e1 (by simp [BM];omega)
          refine core c w a hm hb pn od HR (gz c w a fh) K' Q λv w' c' nJ j7 lg=> ?_
          obtain⟨g1,g2,g3,g4,g5,g6,g7⟩:=Z46 hm hb od HR ly iX hle nJ j7 (λe=>(jY (Ai e)).2) rfl
          rw[rF]at g3 g4 g6 g7 lg
          simp only[dJ,gA]at g3 g4 g6 g7 lg
          refine rC v w' _ ⟨g3,g4,g5.mono (λb _ ⟨r,y,k1,k2,k3,k4⟩=>(by cases k3)),g6,λr=> ?_,λr hr=> ?_,λr k1 k2=>g7 r k1 k2⟩ lg
          . simp [Ctx.behind]
          . simp only[Ctx.behind]
            rw[if_neg (by omega),if_neg (by omega)]
            exact⟨rfl,Iff.rfl⟩
      split at h
      . rename_i res aj hm
        simp only[EO,db,D.cu,ny]at h
        obtain⟨h5,h6⟩:=dz.ok wK _ _ _ _ hm
        exact main res aj (lE h.1) h.2 h5 h6
      . rename_i p res aj hm
        simp only[EO,db,D.cu,ny]at h
        obtain⟨h5,h6⟩:=dz.when wK _ _ _ _ _ hm h.1
        exact main res aj (lE h.2.1) h.2.2 h5 h6
      . rename_i α v res aj hm
        have h:=h v rfl
        simp only[EO,db,D.cu,ny]at h
        obtain⟨h5,h6⟩:=dz.abs wK _ _ _ _ _ _ hm
        exact main (res v) (aj v) (lE h.1) h.2 h5 h6
      . rename_i p α v res aj hm
        obtain⟨hp,h⟩:=h
        have h:=h v rfl
        simp only[EO,db,D.cu,ny]at h
        obtain⟨h5,h6⟩:=dz.lX wK _ _ _ _ _ _ _ hm hp
        exact main (res v) (aj v) (lE h.1) h.2 h5 h6
      . exact h.elim
    . exact h.elim
  . exact h.elim
theorem Zb3{f:Nat->Nat}:∀{ds:List D},Vm ds=true->D.mN f true ds=ds
 |[],_=>rfl
 |d ::l,h=>by
  simp only[Vm]at h
  split at h
  ·rename_i hd
   simp only[D.mN,Zb3 h]
   cases d<;>first|(simp[QY]at hd;done)|simp[D.mM]
  ·cases h
theorem Zjd{f:Nat->Nat}(h:tt d=true):d.jk f true=d:=by
 cases d with
 |agg cs=>show D.agg (D.mN f true cs)=_;rw[Zb3 h]
 |_=>first|(simp[tt,QY]at h;done)|simp[D.jk,D.mM]
theorem Zc9{f:Nat->Nat}:∀{ds:List D},Vn ds=true->D.Bn f true ds=ds
 |[],_=>rfl
 |d ::l,h=>by
  simp only[Vn]at h
  split at h
  ·rename_i hd
   simp only[D.Bn,Zc9 h,Zjd hd]
  ·cases h
theorem Zrx{f:Nat->Nat}(h:u7 d=true):d.tp f true=d:=by
 cases d with
 |dt ds=>show D.dt (D.Bn f true ds)=_;rw[Zc9 h]
 |agg cs=>exact Zjd (d:=.agg cs) h
 |_=>first|(simp[u7,tt,QY]at h;done)|simp[D.tp,D.jk,D.mM]
theorem Z64{R:Rows}(f g:Nat->Nat):∀{ds:List D},th R f [] ds=th R g [] ds
 |[]=>rfl
 |d::l=>by simp only[th,Z64 f g (ds:=l)]
theorem yS{G:List bf}{f:FuncId}{args:List D}{R:Rows}{K:D->Rows->Prop}(h:KX G f args R K):tq G f args R K:=by
 unfold KX at h
 split at h
 ·rename_i x hx
  split at h
  ·rename_i hrefs
   split at h
   ·rename_i az has
    simp only[db]at h
    have hv:∀{res:D} {aj:List Row},MW R res aj K->EO R [] res aj K:=by
     intro res aj h
     have rF:ud (bk [] R.length) [] aj R=R:=by cases aj<;>rfl
     simp only[EO,db,dJ,gA,rF]
     refine⟨by simp,?_⟩
     unfold MW at h
     split at h
     ·simp only[db,D.cu]at h
      rw[Zrx h.1]
      simp only[D.cu,ny,BM,List.map_nil,List.append_nil]
      exact h.2
     ·exact h
    unfold tq
    simp only[hx,hrefs,Zkj]
    rw[Z64 _ (λr=>r),has]
    simp only[BH,db,Qzs]
    refine⟨?_,?_⟩
    ·have:∀l:List Nat,nV l []=true:=λl=>by
      rw[UR];intro r _ hr;cases hr
     simp only[pO,Di,EN,this,Bool.and_true]
     have h1:=h.1
     revert h1
     cases lW [] args<;>simp[Dt]
    ·revert h
     cases x.m az []with
     |no=>exactλh=>h.2
     |ok res aj=>exactλh=>hv h.2
     |«when»p res aj=>exactλh=>⟨h.2.1,hv h.2.2⟩
     |abs α v res aj=>exactλh X hX=>hv (h.2 X hX)
     |lX p α v res aj=>exactλh=>⟨h.2.1,λX hX=>hv (h.2.2 X hX)⟩
   ·exact h.elim
  ·exact h
 ·exact h.elim
theorem WW(hG:j5 P G){f:FuncId}{guard:Option (Nat×Bool)}{R:Rows}{K:D->Rows->Prop}
 (mb:pq G f=none) (h:KX G f (args.toList.map ev) R K):∃val R' x,K val R'/\oZ G f=some x/\Fj P ⟨dst,.call ⟨.value (.func f),args,dh⟩,type,pos',after,guard⟩ ev R val R'/\(x.refs=[]->pW P ⟨dst,.call ⟨.value (.func f),args,dh⟩,type,pos',after,guard⟩ ev R val R'):=
 zS hG mb (yS h)
