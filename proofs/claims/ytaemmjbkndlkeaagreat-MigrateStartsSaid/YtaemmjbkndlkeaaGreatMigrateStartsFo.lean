import Derived.Test.YtaemmjbkndlkeaaGreatMigrateStartsFp
open List renaming getD->aV,getElem?_eq_none->aJ,getElem?_append_left->bI,getElem?_take->aF,getElem?_drop->fL,getElem?_eq_getElem->aI,getElem?_toArray->bH,map_cons->fJ,map_toArray->bV,mem_cons->cQ,mem_map->fU,mem_of_getElem?->fO,length_nil->dE,drop_zero->fV
open Nat renaming le_refl->aX,zero_add->bG,add_assoc->fS
open Option renaming getD_some->aR
open Bool renaming false_eq_true->aA
open Array renaming toArray_toList->bW,extract_eq_self_of_le->fT
set_option linter.all false
namespace Go.GD
open Go
variable {G:List bb}{I I':ab}{K:Act->World->Prop}{P:Program}{Q:Exit->Act->World->Prop}{a:Act}{after:Array Edge}{args:Array Operand}{d d' val:D}{dst:Option Tmp}{ev:Operand->D}{i:Nat}{pos':String}{row:Row}{type:TypeId}{dj:Array TypeId}{v:Value}{vs:List Value}{w w':World}
structure Kt(c:Ctx)(w:World)(R R':Rows)(c':Ctx)(w':World):Prop where
 mem:Mem c' w'
 cz:Q4 c w c' w'
 fr:Fr (λ_=>False) w w'
 fh:∀b,c'.I b->c.I b\/w.heap.size<=b
 rows:∀r,c'.R r=if R.length<=r/\r<R'.length then R'.getD r none else c.R r
 jD:∀r,r<R.length\/R'.length<=r->c'.ρ r=c.ρ r/\(c'.V r↔c.V r)
 new:∀r,R.length<=r->r<R'.length->¬c'.V r->w.heap.size<=c'.ρ r
structure lM(c:Ctx)(w:World)(c':Ctx)(w':World):Prop where
 mem:Mem c' w'
 cz:Q4 c w c' w'
 fr:Fr (λb=>∃r x,c.R r=some x/\¬c.V r/\c.ρ r=b) w w'
 fh:∀b,c'.I b->c.I b\/w.heap.size<=b
 oc:∀r ao,c'.R r=some ao->¬c'.V r->((∃row,c.R r=some row)/\¬c.V r/\c'.ρ r=c.ρ r)\/w.heap.size<=c'.ρ r
def QR(P:Program)(o:Oper)(a:Act)(next:Act->World->Prop):Result Next->Prop
 |.ok (.value v) w'=>next (a.put o.dst v) w'
 |.ok .skip w'=>next (a.put o.dst undef) w'
 |.ok (.enter f args) w'=>Calls P f args w' λe Hj=>∃v,e=.returned v/\next (a.put o.dst v) Hj
 |.ok (.round l f tmps assign body) w'=>RoundIn Fence.wide 0 P l f tmps assign body w' λe Hj=>∃v,e=.returned v/\next (a.put o.dst v) Hj
 |_=>False
def _root_.Go.Oper.nj(P:Program)(o:Oper)(a:Act)(w:World)(next:Act->World->Prop)(_:Exit->Act->World->Prop):Prop:=QR P o a next ((execOp a.eval o).run P w)
theorem Gl{o:Oper}{u:Value}(h:(execOp a.eval o).run P w=.ok (.value u) w')(hK:K (a.put o.dst u) w'):o.nj P a w K Q:=by
 unfold Oper.nj;rw[h];exact hK
theorem yU{o:Oper}(h:(execOp a.eval o).run P w=.ok .skip w')(hK:K (a.put o.dst undef) w'):o.nj P a w K Q:=by
 unfold Oper.nj;rw[h];exact hK
theorem WN{P:Program}{o:Oper}{a:Act}{w:World}{K K':Act->World->Prop}{Q Q':Exit->Act->World->Prop}(h:∀a w,K a w->K' a w)(hh:o.nj P a w K Q):o.nj P a w K' Q':=by
 unfold Oper.nj at hh⊢
 revert hh
 generalize(execOp a.eval o).run P w=r
 intro hh
 cases r with
 |halt _ _=>exact hh.elim
 |ok n w'=>
  cases n with
  |value v=>exact h _ _ hh
  |skip=>exact h _ _ hh
  |enter f args=>exact Calls.mono hh λe w' ⟨v,he,hk⟩=>⟨v,he,h _ _ hk⟩
  |round l f tmps assign body=>exact RoundIn.mono hh λe w' ⟨v,he,hk⟩=>⟨v,he,h _ _ hk⟩
  |_=>exact hh.elim
def pJ(P:Program)(o:Oper)(ev:Operand->D)(R:Rows)(val:D)(R':Rows):Prop:=
 (∃news,R'=R++news)/\∀(c:Ctx) (w:World) (a:Act),Mem c w->c.base<=w.heap.size->mh c R->(∀r,R.length<=r->r<R'.length->c.R r=none)->(∀x∈o.op.operands,Rep c w (ev x) (a.eval x))->
  ∀K Q,(∀v w' c',Kt c w R R' c' w'->Rep c' w' val v->K (a.put o.dst v) w')->o.nj P a w K Q
def Es(P:Program)(o:Oper)(ev:Operand->D)(R:Rows)(val:D)(R':Rows):Prop:=
 ∀ (c:Ctx) (w:World) (a:Act),Mem c w->c.base<=w.heap.size->(∀r,c.R r=R.getD r none)->(∀x∈o.op.operands,Rep c w (ev x) (a.eval x))->
  ∀K Q,(∀v w' c',lM c w c' w'->(∀r,c'.R r=R'.getD r none)->Rep c' w' val v->K (a.put o.dst v) w')->o.nj P a w K Q
theorem pJ.toW{o:Oper}{R:Rows}{R':Rows}(h:pJ P o ev R val R'):Es P o ev R val R':=by
 obtain⟨⟨news,hn⟩,h⟩:=h
 intro c w a hm hb hR ei K Q hK
 refine h c w a hm hb (λr row ao h1 h2=>by rw[hR,h2]at h1;exact(Option.some.inj h1).symm) (λr h1 _=>by rw[hR];simp[aV,aJ h1]) ei K Q λv w' c' hs hr=>?_
 refine hK v w' c' ⟨hs.mem,hs.cz,hs.fr.mono (λb _ hf=>hf.elim),hs.fh,λr ao pF hv=>?_⟩ (λr=>?_) hr
 ·by_cases h1:R.length<=r/\r<R'.length
  ·exact .inr (hs.new r h1.1 h1.2 hv)
  ·rw[hs.rows,if_neg h1]at pF
   obtain⟨h2,h3⟩:=hs.jD r (by omega)
   exact .inl ⟨⟨_,pF⟩,λe=>hv (h3.2 e),h2⟩
 ·rw [hs.rows,hR]
  split
  ·rfl
  ·rename_i h1
   subst hn
   by_cases h2:r<R.length
   ·simp[aV,bI h2]
   ·have h3:(R++news).length<=r:=by omega
    simp[aV,aJ h3,aJ (show R.length<=r by omega)]
theorem mH{o:Oper}{R:Rows}(h:∀(c:Ctx) (w:World) (a:Act),Mem c w->mh c R->(∀x∈o.op.operands,Rep c w (ev x) (a.eval x))->∃u,(execOp a.eval o).run P w=.ok (.value u) w/\Rep c w val u):pJ P o ev R val R:=by
 refine⟨⟨[],by simp⟩,λc w a hm hb hA _ ei K Q hK=>?_⟩
 obtain⟨u,hu,hr⟩:=h c w a hm hA ei
 exact Gl hu (hK u w c ⟨hm,Q4.refl c w,Fr.refl _ w,λb hb=>.inl hb,λr=>by rw[if_neg (by omega)],λ_ _=>⟨rfl,Iff.rfl⟩,λr h1 h2=>by omega⟩ hr)
theorem QS{o:Oper}{R:Rows}(h:∀(c:Ctx) (w:World) (a:Act),Mem c w->mh c R->(∀x∈o.op.operands,Rep c w (ev x) (a.eval x))->
 ∃x:Sem Value,execOp a.eval o=(do pure (.value (<-x)))/\QT P x w c R.length row val):pJ P o ev R val (R++[some row]):=by
 refine⟨⟨[some row],rfl⟩,λc w a hm hb hA ez ei K Q hK=>?_⟩
 obtain⟨x,hx,u,arr,hu,hi,hr⟩:=h c w a hm hA ei
 have hk:c.R R.length=none:=ez R.length (aX _) (by simp)
 have im:(execOp a.eval o).run P w=.ok (.value u) (w.alloc (.cells arr row.ty)):=by
  rw[hx,Sem.run_bind,hu];rfl
 refine Gl im (hK u _ (c.add R.length row w.heap.size) ⟨hm.alloc hk row arr hi.1 hi.2,Q4.alloc hm hk row _,Fr.alloc _ w _,λb hb=>.inl hb,λr=>?_,λr hr=>?_,λr h1 h2 _=>?_⟩ (hr hk hm))
 ·by_cases e:r=R.length
  ·subst e
   simp[Ctx.add,aV]
  ·have:¬(R.length<=r/\r<(R++[some row]).length):=by simp;omega
   rw[if_neg this]
   simp[Ctx.add,e]
 ·have:r≠R.length:=by simp at hr;omega
  simp[Ctx.add,this]
 ·have:r=R.length:=by simp at h2;omega
  simp[Ctx.add,this]
def Gk:Op->Bool|.store _ _ _=>true|_=>false
theorem Zta{c:Ctx}{cs:List D}(h:jm c w cs vs)(o n:Nat):jm c w ((cs.drop o).take n) ((vs.drop o).take n):=by
 rw[Ed]at h⊢
 obtain⟨h1,h2⟩:=h
 refine⟨by simp[h1],λj v hv=>?_⟩
 simp only[aF,fL]at hv
 split at hv
 ·rename_i hj
  have:=h2 (o+j) v hv
  simp only[aV,aF,fL,hj,if_true]at this⊢
  exact this
 ·cases hv
theorem zac{c:Ctx}: ∀{dj:List sk} {az:List D} {vs:List Value},jm c w az vs->fits dj az=true->pS vs.toArray 0 az
  | dj,az,vs,h,hf=>by
    intro j d hj
    have bd:=(List.getElem?_eq_some_iff.1 hj).1
    have hl:=h.length
    have hv:vs[j]? =some vs[j]:=aI (by omega)
    have hr:=(Ed.1 h).2 j _ hv
    simp only[aV,hj,aR]at hr
    have hs : ∀{dj:List sk} {az:List D} {j:Nat},fits dj az=true->az[j]? =some d->(∃k n,d= .int k n)\/(∃b,d= .bool b)\/ ∃s,d= .str s:=by
      intro dj
      induction dj with
      |nil=>intro az j hf hj;cases az<;>simp [fits]at hf;simp at hj
      | cons t ts ih=>
        intro az j hf hj
        cases az with
        |nil=>cases t<;>simp [fits]at hf
        | cons e es=>
          cases t<;>simp only[fits,aE,aA]at hf
          all_goals
            cases j with
            |succ j=>exact ih hf.2 (by simpa using hj)
            | zero=>
              simp at hj
              subst hj
              cases e<;>simp [D.isInt,D.isBool,D.isStr]at hf⊢
    simp only[bG,bH,hv]
    rcases hs hf hj with⟨k,n,rfl⟩|⟨b,rfl⟩|⟨s,rfl⟩<;>(simp only[dc]at hr;rw[hr];rfl)
theorem Z7w{c:Ctx}{w:World}:∀{ds:List D} {vs:List Value},kj c w ds vs->∀i,i<ds.length->∃v,vs[i]?=some v/\VRep c w (ds.getD i .dead) v
 |[],[],_,i,h=>by simp at h
 |d::ds,v::vs,h,0,_=>⟨v,rfl,h.1⟩
 |d::ds,v::vs,h,i+1,hi=>by
  obtain⟨u,hu,hr⟩:=Z7w h.2 i (by simpa using hi)
  exact⟨u,by simpa using hu,by simpa using hr⟩
 |[],_::_,h,_,_=>h.elim
 |_::_,[],h,_,_=>h.elim
theorem qau{x:iE}(h:CP d=some x):x.d=d:=by
 have go:∀{cs:List iE} {ps:List (Nat×Nat×Nat)},QU cs=some ps->ps.map Ig=cs:=by
  intro cs
  induction cs with
  |nil=>intro ps h;simp[QU]at h;subst h;rfl
  |cons y l ih=>
   intro ps h
   simp only[QU]at h
   split at h
   ·rename_i p qs h1 h2
    cases h
    simp only[fJ,ih h2]
    cases y<;>simp[Hn]at h1
    subst h1;rfl
   ·cases h
 cases d<;>simp only[CP]at h<;>first|(cases h;done)|skip
 case gm f cs=>
  split at h
  ·rename_i ps hp;cases h;simp only[iE.d,go hp]
  ·cases h
 all_goals(cases h;rfl)
theorem WZ{c:Ctx}{w:World}{ev:Operand->D}{ρ:Operand->Value}:∀{xs:List Operand} {cs:List iE},KI (xs.map ev)=some cs->(∀x∈xs,Rep c w (ev x) (ρ x))->oH c w cs (xs.map ρ)
 |[],cs,h,_=>by simp[KI]at h;subst h;trivial
 |x ::xs,cs,h,hr=>by
  simp only[fJ,KI]at h
  split at h
  ·rename_i y ys h1 h2
   cases h
   refine⟨?_,WZ h2 λz hz=>hr z (by simp[hz])⟩
   have:=hr x (by simp)
   rw[<-qau h1]at this
   rw[WI]
   cases y<;>exact this
  ·cases h
theorem Nx{T:iy}(hT:ji P T)(o:Oper)(ev:Operand->D)(R:Rows)(K:D->Rows->Prop)(h:gr T o.op ev R K):
 ∃val R',K val R'/\(if Gk o.op then Es P o ev R val R' else pJ P o ev R val R'):=by
 obtain⟨dst,op,type,pos,after,guard⟩:=o
 simp only at h
 cases op<;>(try simp only[gr]at h)<;>try(exact h.elim)
 case makeFunc fn first captured=>
  cases fn<;>simp only at h<;>try(exact h.elim)
  rename_i f
  simp only[dd,aE]at h
  obtain⟨⟨h0,hy⟩,h⟩:=h
  split at h
  ·rename_i cs hc
   refine⟨_,_,h,mH λc w a hm hA ei=>?_⟩
   have hf:first= #[]:=Array.eq_empty_of_size_eq_zero (bE h0)
   subst hf
   refine⟨.func (.func f) #[] (captured.map a.eval),?_,captured.toList.map a.eval,?_,WZ hc λx hx=>ei x (by simp[Op.operands];simpa using hx)⟩
   ·simp only[execOp,Instr.makeFunc,Sem.run_bind,Sem.run_pure,Array.map_empty];rfl
   ·exact .inl ⟨lE hy,by rw[<-bV,bW]⟩
  ·exact h.elim
 case move x=>
  rw[D.c7]at h
  exact⟨_,_,h,mH λc w a hm hA ei=>⟨_,rfl,ei x (by simp[Op.operands])⟩⟩
 case assign x=>
  rw[D.c7]at h
  exact⟨_,_,h,mH λc w a hm hA ei=>⟨_,rfl,ei x (by simp[Op.operands])⟩⟩
 case alloc t=>
  split at h
  ·rename_i ht
   simp only[dd,aE,KH]at h
   obtain⟨⟨h0,hl⟩,h⟩:=h
   exact⟨_,_,h,QS λc w a hm hA ei=>⟨_,rfl,Zr0 hT ht (lE h0) (bE hl) R.length c w⟩⟩
  ·exact h.elim
 case box t x=>
  split at h
  ·rename_i ht
   simp only[dd,aE,KH,D.fc]at h
   obtain⟨⟨⟨h0,hv⟩,hl⟩,h⟩:=h
   exact⟨_,_,h,QS λc w a hm hA ei=>⟨_,rfl,qaL (lE h0) hv (bE hl) R.length c w (ei x (by simp[Op.operands]))⟩⟩
  ·exact h.elim
 case build t parts=>
  obtain⟨val,hK,hr⟩:=vV hT h
  refine⟨_,_,hK,mH λc w a hm hA ei=>?_⟩
  obtain⟨u,hu,hx⟩:=hr c w a.eval (λp hp=>ei p.2 (by simp[Op.operands];exact⟨p.1,by simpa using hp⟩))
  refine⟨u,?_,hx⟩
  simp only[execOp]
  rw[Sem.run_bind,show parts.map (λx=>(x.1,a.eval x.2))=(parts.toList.map λp=>(p.1,a.eval p.2)).toArray from by rw[<-bV,bW],hu]
  rfl
 case buildSlice t len parts=>
  obtain⟨h1,h2⟩:=Z8y.1 h
  cases hl:Vc t len
  rotate_left
  ·obtain⟨row,val,hK,hr⟩:=Zq0 hT (h1 hl)
   refine⟨_,_,hK,QS λc w a hm hA ei=>⟨_,?_,hr c w a.eval (λp hp=>ei p.2 (by simp[Op.operands];exact⟨p.1,by simpa using hp⟩))⟩⟩
   simp only[execOp]
   rw[show parts.map (λx=>(x.1,a.eval x.2))=(parts.toList.map λp=>(p.1,a.eval p.2)).toArray from by rw[<-bV,bW]]
  have h:=h2 hl
  obtain⟨val,hK,hr⟩:=Zsd hT h
  refine⟨_,_,hK,⟨[],by simp⟩,λc w a hm hb hA _ ei K Q hK=>?_⟩
  obtain⟨u,arr,ty,hu,hx⟩:=hr c w a.eval hb (λp hp=>ei p.2 (by simp[Op.operands];exact⟨p.1,by simpa using hp⟩))
  have im:(execOp a.eval (⟨dst,.buildSlice t len parts,type,pos,after,guard⟩:Oper)).run P w=.ok (.value u) (w.alloc (.cells arr ty)):=by
   simp only[execOp]
   rw[Sem.run_bind,show parts.map (λx=>(x.1,a.eval x.2))=(parts.toList.map λp=>(p.1,a.eval p.2)).toArray from by rw[<-bV,bW],hu]
   rfl
  exact Gl im (hK u _ (c.fh w.heap.size) ⟨xat hm _,Vb hm _,Fr.alloc _ w _,λb hb=>hb.elim .inl (λe=>.inr (by omega)),λr=>by rw[if_neg (by omega)];rfl,λ_ _=>⟨rfl,Iff.rfl⟩,λr h1 h2=>by omega⟩ (hx hm))
 case load t x=>
  obtain⟨val,hK,hr⟩:=Zk2 hT h
  refine⟨_,_,hK,mH λc w a hm hA ei=>?_⟩
  obtain⟨u,hu,hx⟩:=hr c w _ hm hA (ei x (by simp[Op.operands]))
  exact⟨u,by simp only[execOp];rw[Sem.run_bind,hu];rfl,hx⟩
 case store t x y=>
  obtain⟨R',hK,hr⟩:=Zsr hT h
  refine⟨_,_,hK,?_⟩
  simp only[Gk,if_true]
  intro c w a hm hb hR ei K Q hK
  obtain⟨r,ao,arr,w',im,ZA,⟨row,c6⟩,hV,hg,mn,j6⟩:=hr c w _ _ hm hR (ei x (by simp[Op.operands])) (ei y (by simp[Op.operands]))
  refine yU (w':=w') ?_ (hK undef w' _ ⟨mn,hg,?_,λb hb=>.inl hb,λs sL hs hv=>?_⟩ j6 trivial)
  ·simp only[execOp];rw[Sem.run_bind,im];rfl
  rotate_left
  ·by_cases e:s=r
   ·exact .inl ⟨⟨row,by rw[e];exact c6⟩,hv,rfl⟩
   ·exact .inl ⟨⟨sL,by simpa[Ctx.jT,e]using hs⟩,hv,rfl⟩
  ·rw[ZA]
   exact(SQ w _ arr).mono λb _ e=>⟨r,row,c6,hV,e.symm⟩
 case nilCheck x=>
  have go:∀d,ev x=d->(∃a b c,d=.ptr a b c)\/(∃a b c e,d=.iu a b c e)->K d R->∃val R',K val R'/\pJ P ⟨dst,.nilCheck x,type,pos,after,guard⟩ ev R val R':=by
   intro d hd QV hK
   refine⟨_,_,hK,mH λc w a hm hA ei=>?_⟩
   have hx:=ei x (by simp[Op.operands])
   rw[hd]at hx
   have hp:∃q,a.eval x=.pointer (some q):=by
    rcases QV with⟨r,i,off,rfl⟩|⟨sz,es,i,off,rfl⟩
    ·obtain⟨_,_,_,_,hv⟩:=hx;exact⟨_,hv⟩
    ·obtain⟨_,_,_,_,_,hv,_⟩:=hx;exact⟨_,hv⟩
   obtain⟨q,hq⟩:=hp
   refine⟨a.eval x,?_,hx⟩
   simp only[execOp,hq,Sem.run_pure]
  split at h
  ·rename_i hd;exact go _ hd (.inl ⟨_,_,_,rfl⟩) h
  ·rename_i hd;exact go _ hd (.inr ⟨_,_,_,_,rfl⟩) h
  ·exact h.elim
 case binOp op t x y ty=>
  have fin:∀(val:D),(∀c w u v,Rep c w (ev x) u->Rep c w (ev y) v->∃z,(do eqGuard op t x y u v;binOp op t u v).run P w=.ok z w/\Rep c w val z)->pJ P ⟨dst,.binOp op t x y ty,type,pos,after,guard⟩ ev R val R:=λval hv=>
   mH λc w a hm hA ei=>by
    obtain⟨z,hz,hr⟩:=hv c w _ _ (ei x (by simp[Op.operands])) (ei y (by simp[Op.operands]))
    refine⟨z,?_,hr⟩
    simp only[execOp]
    rw[Sem.run_bind,hz];rfl
  unfold sQ at h
  split at h
  ·rename_i k a k' b hx hy
   split at h
   ·simp only[dd,decide_eq_true_eq]at h
    refine⟨_,_,h.2,fin _ λc w u v hu hv=>?_⟩
    rw[hx]at hu;rw[hy]at hv
    rw[Rep.int.1 hu,Rep.int.1 hv]
    exact⟨_,by rw[Sem.run_bind,Qx];exact(Ziy h.1 w).1,rfl⟩
   ·simp only[dd,decide_eq_true_eq]at h
    refine⟨_,_,h.2,fin _ λc w u v hu hv=>?_⟩
    rw[hx]at hu;rw[hy]at hv
    rw[Rep.int.1 hu,Rep.int.1 hv]
    exact⟨_,by rw[Sem.run_bind,Qx];exact(Ziy h.1 w).2,rfl⟩
   ·rename_i h1 h2
    simp only[dd,decide_eq_true_eq]at h
    obtain⟨rfl,h⟩:=h
    obtain⟨d,hK,hr⟩:=zau (P:=P) (t:=t) ⟨λe=>h1 e,λe=>h2 e⟩ h
    refine⟨_,_,hK,fin _ λc w u v hu hv=>?_⟩
    rw[hx]at hu;rw[hy]at hv
    rw[Rep.int.1 hu,Rep.int.1 hv]
    obtain⟨z,hz,hz'⟩:=hr w
    exact⟨z,by rw[Sem.run_bind,Qx];exact hz,hz' c⟩
  ·rename_i a b hx hy
   obtain⟨d,hK,hr⟩:=xau (P:=P) (t:=t) (op:=op) (a:=a) (b:=b) (K:=λd=>K d R) h
   refine⟨_,_,hK,fin _ λc w u v hu hv=>?_⟩
   rw[hx]at hu;rw[hy]at hv
   rw[Rep.str.1 hu,Rep.str.1 hv]
   obtain⟨z,hz,hz'⟩:=hr w
   exact⟨z,by rw[Sem.run_bind,Zns];exact hz,hz' c⟩
  ·rename_i a b hx hy
   split at h
   ·rename_i ht
    have hd:=mG hT ht
    simp only at hd
    split at h
    ·refine⟨_,_,h,fin _ λc w u v hu hv=>?_⟩
     rw[hx]at hu;rw[hy]at hv
     rw[Rep.bool.1 hu,Rep.bool.1 hv]
     refine⟨_,?_,rfl⟩
     rw[Sem.run_bind,Z35]
     simp only[binOp]
     simp[Op.equal,Op.maxDepth,run_equalIn_bool' w 9999 t a b hd]
    ·refine⟨_,_,h,fin _ λc w u v hu hv=>?_⟩
     rw[hx]at hu;rw[hy]at hv
     rw[Rep.bool.1 hu,Rep.bool.1 hv]
     refine⟨_,?_,rfl⟩
     rw[Sem.run_bind,Z35]
     simp only[binOp]
     simp[Op.equal,Op.maxDepth,run_equalIn_bool' w 9999 t a b hd]
    ·exact h.elim
   ·exact h.elim
  ·rename_i a b hx hy
   split at h
   ·rename_i ti ht
    simp only[dd,aE]at h
    obtain⟨⟨⟨⟨⟨CO,h0⟩,he⟩,fa⟩,fb⟩,h⟩:=h
    obtain⟨i0,pC,BG,_,Ky,Ad,_,heq,hc,d0,Ft⟩:=DC (hT.get ht)
    have h0:0<ti.size:=lE h0
    rw[heq]at he
    simp only[aE,Bool.not_eq_true']at he
    rw[hc]at fa fb
    have ky:P.cellsOf t=(mb P 8 t).length:=by rw[<-hc,Ky];simp[Program.cellsOf,pC,BG]
    have uv:0<P.cellsOf t:=by simp[Program.cellsOf,pC,BG,h0]
    have QW:∀c w u v,Rep c w (ev x) u->Rep c w (ev y) v->∃us vs:Array Value,u=.agg us/\v=.agg vs/\(Op.equalIn 10000 t (.agg us) (.agg vs)).run P w=.ok (eqs a b) w:=by
     intro c w u v hu hv
     rw[hx]at hu;rw[hy]at hv
     obtain⟨us,hu,ru⟩:=hu
     obtain⟨vs,hv,rv⟩:=hv
     refine⟨us.toArray,vs.toArray,hu,hv,?_⟩
     have JJ:=Zp2 (P:=P) 8 t 10000 (by omega) he.2 ky uv us.toArray vs.toArray 0 a b w fa fb (zac ru fa) (zac rv fb)
     have hlu:=ru.length;have hlv:=rv.length
     have hla:=sR fa;have hlb:=sR fb
     have uq:QP d0=true:=by rw[<-MC Ft,<-Ad];exact CO
     simp only[oy,Sem.run_bind,Vd Ft uq uv,Result.andThen_ok]at JJ
     rw[show us.toArray.extract 0 (0+P.cellsOf t)=us.toArray from by apply fT;simp;omega,show vs.toArray.extract 0 (0+P.cellsOf t)=vs.toArray from by apply fT;simp;omega]at JJ
     exact JJ
    split at h
    ·refine⟨_,_,h,fin _ λc w u v hu hv=>?_⟩
     obtain⟨us,vs,rfl,rfl,hr⟩:=QW c w u v hu hv
     refine⟨_,?_,rfl⟩
     rw[Sem.run_bind,run_eqGuard_agg w _ _ _ _ _ _ he.1,Result.andThen_ok,run_eql_struct,hr];rfl
    ·refine⟨_,_,h,fin _ λc w u v hu hv=>?_⟩
     obtain⟨us,vs,rfl,rfl,hr⟩:=QW c w u v hu hv
     refine⟨_,?_,rfl⟩
     rw[Sem.run_bind,run_eqGuard_agg w _ _ _ _ _ _ he.1,Result.andThen_ok,run_neq_struct,hr];rfl
    ·exact h.elim
   ·exact h.elim
  ·exact h.elim
 case unOp op t x=>
  split at h
  ·rename_i k n hx
   refine⟨_,_,h,mH λc w a hm hA ei=>?_⟩
   have:=ei x (by simp[Op.operands])
   rw[hx]at this
   exact⟨_,by simp only[execOp,Rep.int.1 this,Op.unary,Op.intArith,Sem.run_bind,Sem.run_pure];rfl,rfl⟩
  ·rename_i k n hx
   refine⟨_,_,h,mH λc w a hm hA ei=>?_⟩
   have:=ei x (by simp[Op.operands])
   rw[hx]at this
   exact⟨_,by simp only[execOp,Rep.int.1 this,Op.unary,Op.intBits,Sem.run_bind,Sem.run_pure];rfl,rfl⟩
  ·rename_i b hx
   refine⟨_,_,h,mH λc w a hm hA ei=>?_⟩
   have:=ei x (by simp[Op.operands])
   rw[hx]at this
   exact⟨_,by simp only[execOp,Rep.bool.1 this,Op.unary,Sem.run_bind,Sem.run_pure];rfl,rfl⟩
  ·exact h.elim
 case convert s d x=>
  obtain⟨val,hK,hr⟩:=qav hT h
  refine⟨_,_,hK,mH λc w a hm hA ei=>?_⟩
  obtain⟨u,hu,hx⟩:=hr c w _ (ei x (by simp[Op.operands]))
  exact⟨u,by simp only[execOp];rw[Sem.run_bind,hu];rfl,hx⟩
 case makeSlice t l cp=>
  split at h
  ·rename_i kl n kc m hl hc
   obtain⟨row,val,hK,hr⟩:=yv (kl:=kl) (kc:=kc) hT h
   refine⟨_,_,hK,QS λc w a hm hA ei=>⟨_,rfl,?_⟩⟩
   have h1:=ei l (by simp[Op.operands]);have h2:=ei cp (by simp[Op.operands])
   rw[hl]at h1;rw[hc]at h2
   rw[Rep.int.1 h1,Rep.int.1 h2]
   exact hr c w
  ·exact h.elim
 case slice t x lo hi mx=>
  cases mx with
  |some m=>simp only at h
  |none=>
   simp only at h
   obtain⟨val,hK,hr⟩:=yV hT h
   refine⟨_,_,hK,mH λc w a hm hA ei=>?_⟩
   obtain⟨u,hu,hx⟩:=hr c w _ a.eval hm hA (ei x (by simp[Op.operands])) (λy hy=>ei y (by simp[Op.operands,hy])) (λy hy=>ei y (by simp[Op.operands,hy]))
   exact⟨u,by simp only[execOp];rw[Sem.run_bind];simp only[Option.map_none];rw[hu];rfl,hx⟩
 case fieldAddr s x f=>
  split at h
  ·rename_i o q n hf
   simp only[dd]at h
   obtain⟨h0,h⟩:=h
   have h0:0<n:=lE h0
   obtain⟨fs,fd,g1,g2,g3,g4,g5⟩:=Z3c hT hf
   split at h
   ·rename_i r i off hx
    refine⟨_,_,h,mH λc w a hm hA ei=>?_⟩
    have:=ei x (by simp[Op.operands])
    rw[hx]at this
    obtain⟨row,k1,kV,k2,hv⟩:=this
    refine⟨_,by simp only[execOp,hv];rw[Sem.run_bind,Z6q g1 g2 (by simp only at g5;omega)];rfl,row,k1,kV,k2,by rw[g3,fS]⟩
   ·rename_i sz es i off hx
    refine⟨_,_,h,mH λc w a hm hA ei=>?_⟩
    have:=ei x (by simp[Op.operands])
    rw[hx]at this
    obtain⟨b,oo,arr,ty,fz,hv,hI,hi,hh,hE⟩:=this
    refine⟨_,by simp only[execOp,hv];rw[Sem.run_bind,Z6q g1 g2 (by simp only at g5;omega)];rfl,b,oo,arr,ty,fz,by rw[g3,fS],hI,hi,hh,hE⟩
   ·exact h.elim
  ·exact h.elim
 case field s x f=>
  split at h
  ·rename_i o q n hf
   obtain⟨fs,fd,g1,g2,g3,g4,g5⟩:=Z3c hT hf
   simp only at g4 g5
   split at h
   ·rename_i cs ti hx ht
    simp only[dd,aE]at h
    obtain⟨⟨h0,hle⟩,h⟩:=h
    have h0:0<n:=lE h0
    have hle:=lE hle
    obtain⟨_,_,_,_,_,Ad,_,_,_,d0,Ft⟩:=DC (hT.get ht)
    have run:∀(vs:List Value) (w:World) (r:Value),(part q vs.toArray o).run P w=.ok r w->(Instr.field s (.agg vs.toArray) f).run P w=.ok r w:=λvs w r hr=>by
     simp only[Instr.field,Sem.run_bind,run_underlying g1,Result.andThen_ok,g2,asAgg,Sem.run_pure,g4,g3,hr]
    split at h
    ·rename_i CO
     rw[D.fc]at h
     refine⟨_,_,h,mH λc w a hm hA ei=>?_⟩
     have:=ei x (by simp[Op.operands])
     rw[hx]at this
     obtain⟨vs,hv,hr⟩:=this
     have hp:=Vd (P:=P) Ft (by rw[<-MC Ft,<-Ad];exact CO) (by rw[<-g4,g5];exact h0) vs.toArray o w
     refine⟨_,by simp only[execOp,hv];rw[Sem.run_bind,run vs w _ hp];rfl,(vs.drop o).take n,?_,Zta hr o n⟩
     rw[<-g4,g5]
     congr 1
     simp[List.extract_toArray,List.extract_eq_take_drop]
    ·rename_i CO
     simp only[D.c7]at h
     obtain⟨wM,h⟩:=h
     refine⟨_,_,h,mH λc w a hm hA ei=>?_⟩
     have:=ei x (by simp[Op.operands])
     rw[hx]at this
     obtain⟨vs,hv,hr⟩:=this
     have hl:=hr.length
     have iw:vs[o]?=some vs[o]:=aI (by omega)
     have hp:=Ho (P:=P) (t:=q) Ft (by rw[<-MC Ft,<-Ad];exact CO) (xs:=vs.toArray) (o:=o) (v:=vs[o]) (by rw[bH];exact iw) w
     refine⟨_,by simp only[execOp,hv];rw[Sem.run_bind,run vs w _ hp];rfl,?_⟩
     have hc:=(Ed.1 hr).2 o _ iw
     generalize cs.getD o .dead=d at*
     cases d<;>first|exact hc|trivial|exact hc.elim
   ·exact h.elim
  ·exact h.elim
 case indexAddr t x ix=>
  split at h
  ·rename_i k n hn
   obtain⟨val,hK,hr⟩:=Zsm (k:=k) hT h
   refine⟨_,_,hK,mH λc w a hm hA ei=>?_⟩
   have h2:=ei ix (by simp[Op.operands])
   rw[hn]at h2
   obtain⟨u,hu,hx⟩:=hr c w _ hm hA (ei x (by simp[Op.operands]))
   exact⟨u,by simp only[execOp,Rep.int.1 h2];rw[Sem.run_bind,hu];rfl,hx⟩
  ·exact h.elim
 case index t x ix=>
  split at h
  ·rename_i s k n ht hx hn
   have hd:=mG hT ht
   simp only at hd
   simp only[dd,decide_eq_true_eq]at h
   obtain⟨⟨h1,h2⟩,h⟩:=h
   refine⟨_,_,h,mH λc w a hm hA ei=>?_⟩
   have e1:=ei x (by simp[Op.operands]);have e2:=ei ix (by simp[Op.operands])
   rw[hx]at e1;rw[hn]at e2
   refine⟨_,?_,rfl⟩
   have bd:n.toNat<s.length:=by omega
   have hg:(ByteArray.mk s.toArray)[n.toNat]?=some (s.getD n.toNat 0):=by
    have h3:n.toNat<(ByteArray.mk s.toArray).size:=by simpa[ByteArray.size]using bd
    rw[getElem?_pos (ByteArray.mk s.toArray) n.toNat h3]
    simp only[aV,aI bd,aR]
    rfl
   simp only[execOp,Rep.str.1 e1,Rep.int.1 e2,Instr.index,asIntOf,Sem.run_bind,Sem.run_pure,Result.andThen_ok,run_underlying hd,h1,if_true,hg]
  ·rename_i len e iJ _ _ _ _ _ cs k n ht hx hn
   have hd:=mG hT ht
   simp only at hd
   obtain⟨hd,ft⟩:=hd
   simp only[dd,aE,decide_eq_true_eq]at h
   obtain⟨⟨q1,q2,q3,q4⟩,h⟩:=h
   have q1:=bE q1
   have q2:=bE q2
   have run:∀(vs:List Value) (v:Value) (w:World) (d:TypeDesc),P.underlying e=some d->QP d=false->vs[n.toNat]?=some v->(Instr.index t (.agg vs.toArray) (.int k n)).run P w=.ok v w:=λvs v w d hu hda hv=>by
    have h0:0<P.cellsOf e:=by omega
    simp only[Instr.index,asIntOf,Sem.run_bind,Sem.run_pure,Result.andThen_ok,run_underlying hd,Sem.run_ite,q3,q4,and_self,if_true,AE h0]
    rw[ft,q1,Nat.mul_one]
    exact Ho hu hda (by rw[bH];exact hv) w
   have cell:∀(c:Ctx) (w:World) (a:Act),Rep c w (.agg cs) (a.eval x)->∃vs:List Value,a.eval x=.agg vs.toArray/\∃v,vs[n.toNat]?=some v/\dc c w (cs.getD n.toNat .dead) v:=λc w a hr=>by
    obtain⟨vs,hv,hr⟩:=hr
    have hl:=hr.length
    have iw:vs[n.toNat]?=some vs[n.toNat]:=aI (by omega)
    exact⟨vs,hv,_,iw,(Ed.1 hr).2 _ _ iw⟩
   split at h
   ·rename_i kk _ _ _ _ _ he
    have hu:=mG hT he
    simp only at hu
    obtain⟨h1,h⟩:=h
    refine⟨_,_,h,mH λc w a hm hA ei=>?_⟩
    have e1:=ei x (by simp[Op.operands]);have e2:=ei ix (by simp[Op.operands])
    rw[hx]at e1;rw[hn]at e2
    obtain⟨vs,hv,v,g1,g2⟩:=cell c w a e1
    have hi:=U7 h1 (n:=n.toNat) (by omega)
    rw[bG]at hi
    rw[D.kg hi]at g2
    refine⟨v,?_,?_⟩
    ·simp only[execOp,Rep.int.1 e2,hv]
     rw[Sem.run_bind,run vs v w _ hu rfl g1];rfl
    ·rw[U5 (show n.toNat<len by omega),bG]
     exact g2
   ·rename_i he
    have hu:=mG hT he
    simp only at hu
    obtain⟨h1,h⟩:=h
    refine⟨_,_,h,mH λc w a hm hA ei=>?_⟩
    have e1:=ei x (by simp[Op.operands]);have e2:=ei ix (by simp[Op.operands])
    rw[hx]at e1;rw[hn]at e2
    obtain⟨vs,hv,v,g1,g2⟩:=cell c w a e1
    have hi:=U8 h1 (n:=n.toNat) (by omega)
    rw[bG]at hi
    rw[D.kh hi]at g2
    refine⟨v,?_,?_⟩
    ·simp only[execOp,Rep.int.1 e2,hv]
     rw[Sem.run_bind,run vs v w _ hu rfl g1];rfl
    ·rw[U6 (show n.toNat<len by omega),bG]
     exact g2
   ·exact h.elim
  ·exact h.elim
 case extract x i=>
  split at h
  ·rename_i ds hx
   simp only[dd,D.c7]at h
   obtain⟨hv,h⟩:=h
   refine⟨_,_,h,mH λc w a hm hA ei=>?_⟩
   have:=ei x (by simp[Op.operands])
   rw[hx]at this
   obtain⟨vs,BM,hr⟩:=this
   have bd:i<ds.length:=by
    by_cases hl:i<ds.length
    ·exact hl
    ·rw[aV,aJ (by omega)]at hv;simp[D.isVal]at hv
   obtain⟨v,Wp,hvr⟩:=Z7w hr i bd
   refine⟨v,?_,?_⟩
   ·simp only[execOp,BM,Instr.extract,bH,Wp];rfl
   ·generalize ds.getD i .dead=d at*
    cases d<;>first|exact hvr|trivial|exact hvr.elim
  ·exact h.elim
 case call cl=>
  obtain⟨callee,args,dj⟩:=cl
  cases callee<;>try(simp only at h)
  case builtin b=>
  cases b<;>try(simp only at h)
  case len=>
   split at h
   ·rename_i x t hx ht
    obtain⟨val,hK,hr⟩:=xaK (t':=type) hT h
    refine⟨_,_,hK,mH λc w a hm hA ei=>?_⟩
    have fv:args= #[x]:=by rw[<-bW (xs:=args),hx]
    have ui:dj= #[t]:=by rw[<-bW (xs:=dj),ht]
    subst fv;subst ui
    obtain⟨u,hu,hx⟩:=hr c w _ hm hA (ei x (by simp[Op.operands,Call.operands]))
    refine⟨u,?_,hx⟩
    simp only[execOp,resolve,Sem.run_bind,Sem.run_pure,Result.andThen_ok,invoke,builtin]
    have:(#[x]:Array Operand).map a.eval= #[a.eval x]:=by simp
    rw[this,hu];rfl
   ·exact h.elim
def Ctx.kill(c:Ctx)(ks:List Nat):Ctx:={c with R:=λr=>if da r ks=true then none else(c.R r).map (Row.kill ks)}
structure jL(ks:List Nat)(c:Ctx)(w:World)(c':Ctx)(w':World):Prop where
 mem:Mem c' w'
 cz:Q4 (c.kill ks) w c' w'
 fr:Fr (λb=>∃r x,c.R r=some x/\¬c.V r/\c.ρ r=b) w w'
 fh:∀b,c'.I b->c.I b\/(∃s row,da s ks=true/\c.R s=some row/\¬c.V s/\c.ρ s=b)\/w.heap.size<=b
 oc:∀r ao,c'.R r=some ao->¬c'.V r->((∃row,c.R r=some row)/\¬c.V r/\c'.ρ r=c.ρ r)\/(∃s row,da s ks=true/\c.R s=some row/\¬c.V s/\c'.ρ r=c.ρ s)\/w.heap.size<=c'.ρ r
def kr(P:Program)(f:FuncId)(args:List D)(rows:List Row)(res:D)(aj:List Row):Prop:=
 ∀ (c:Ctx) (w:World) (vs:List Value),Mem c w->c.base=w.heap.size->(∀r,c.R r=rows[r]?)->kj c w args vs->
  Calls P f vs.toArray w λe w'=>∃v c',e=.returned v/\lM c w c' w'/\(∀r,c'.R r=aj[r]?)/\Rep c' w' res v
def Gb(P:Program)(I:ab)(f:FuncId)(vs:List Value)(w:World)(R:Ending->World->Prop):Prop:=
 (f<YB->Calls P f vs.toArray w R)/\
 (YB<=f->∀l rec xs us,vs=xs++us->I l->w.heap[l]?=some (.loop rec)->QX f us rec->xs.length=1->
  RoundIn Fence.wide 0 P l rec.fn ((rec.params.zip xs.toArray).foldl (λtmps (t,a)=>tmps.setIfInBounds t a) rec.tmps) rec.assign rec.body w R)
theorem Gb.mono{f:FuncId}{R R':Ending->World->Prop}(h:Gb P I f vs w R)(hI:∀b,I' b->I b)(hR:∀e w',R e w'->R' e w'):Gb P I' f vs w R':=
 ⟨λhf=>(h.1 hf).mono hR,λhf l rec xs us h1 h2 h3 h4 h5=>(h.2 hf l rec xs us h1 (hI l h2) h3 h4 h5).mono hR⟩
theorem Gb.real{f:FuncId}{R:Ending->World->Prop}(hf:f<YB)(h:Calls P f vs.toArray w R):Gb P I f vs w R:=⟨λ_=>h,λhg=>absurd hf (Nat.not_lt.2 hg)⟩
def Qd(P:Program)(f:FuncId)(k:Nat)(args:List D)(rows:List Row)(res:D)(aj:List Row):Prop:=
 ∀ (c:Ctx) (w:World) (vs:List Value),Mem c w->c.base=0->(∀r,c.R r=rows[r]?)->kj c w args vs->
  Gb P c.I f vs w λe w'=>∃v c',e=.returned v/\jL (List.range' k (rows.length-k)) c w c' w'/\(∀r,c'.R r=aj[r]?)/\Rep c' w' res v
def mY:D->Prop|.int _ _=>True|.bool _=>True|.str _=>True|.c8=>True|.iz=>True|.emp=>True|_=>False
def CT.mY:CT->Bool|.int _=>true|.bool=>true|.str=>true|_=>false
def RK.mY(k:RK):Bool:=k.sig.all CT.mY
def ai.Fu:ai->Prop
 |.gen es=>∀e∈es,∀d∈e,mY d
 |.ah k _=>k.mY=true
 |_=>True
theorem Ze5:∀{ts:List CT} {cs:List D} {j:Nat},ts.all CT.mY=true->∀d∈wa ts cs j,mY d
 |[],_,_,_,d,h=>by simp[wa]at h
 |t ::ts,cs,j,ht,d,h=>by
  simp only[List.all_cons,aE]at ht
  simp only[wa,cQ]at h
  rcases h with h|h
  ·subst h
   cases t<;>first|trivial|(simp[CT.mY]at ht)
  ·exact Ze5 ht.2 d h
theorem ai.CQ{E:ai}(h:E.Fu):∀e∈E.l,∀d∈e,mY d:=by
 cases E with
 |gen es=>exact h
 |ints k l=>
  intro e he d hd
  simp only[ai.l,fU]at he
  obtain⟨n,_,rfl⟩:=he
  simp at hd
  subst hd;trivial
 |ag l=>
  intro e he d hd
  simp only[ai.l,fU]at he
  obtain⟨n,_,rfl⟩:=he
  simp at hd
  subst hd;trivial
 |ah k l=>
  intro e he d hd
  simp only[ai.l,fU]at he
  obtain⟨x,_,rfl⟩:=he
  rw[<-RK.ob]at hd
  exact Ze5 h d hd
def QY:D->Prop
 |.sl _ es fr=>(es.Nil\/fr=true)/\es.Fu
 |.iu _ _ _ _=>False
 |.gm _ _=>False
 |_=>True
def MF:List D->Prop
 |[]=>True
 |d::ds=>QY d/\MF ds
def Ve:D->Prop
 |.agg cs=>MF cs
 |d=>QY d
def Fv:List D->Prop
 |[]=>True
 |d::ds=>Ve d/\Fv ds
def FF:D->Prop
 |.dw ds=>Fv ds
 |d=>Ve d
def JK(row:Row):Prop:=if row.box then∀e∈row.es.l,MF e else row.es.Fu
def rA:List Row->Prop
 |[]=>True
 |r::l=>JK r/\rA l
structure bj(P:Program)(x:bb):Prop where
 enters:x.f<YB->∀args w,(callFunc x.f args).run P w=.ok (.enter x.f args) w
 real:x.gone=none->x.f<YB
 ok:x.gone=none->∀args rows res aj,x.m args rows=.ok res aj->kr P x.f args rows res aj/\(x.flat=true->FF res/\rA aj)
 when:x.gone=none->∀args rows p res aj,x.m args rows=.when p res aj->p->kr P x.f args rows res aj/\(x.flat=true->FF res/\rA aj)
 abs:x.gone=none->∀args rows α v res aj,x.m args rows=.abs α v res aj->kr P x.f args rows (res v) (aj v)/\(x.flat=true->FF (res v)/\rA (aj v))
 lB:x.gone=none->∀args rows p α v res aj,x.m args rows=.lB p α v res aj->p->kr P x.f args rows (res v) (aj v)/\(x.flat=true->FF (res v)/\rA (aj v))
 QM:∀k,x.gone=some k->∀args rows α v res aj,x.m args rows=.abs α v res aj->Qd P x.f k args rows (res v) (aj v)
 Hi:∀k,x.gone=some k->∀args rows p α v res aj,x.m args rows=.lB p α v res aj->p->Qd P x.f k args rows (res v) (aj v)
def jB(P:Program)(G:List bb):Prop:=∀x∈G,bj P x
theorem Gj{P:Program}:∀{G:List bb} {f:FuncId} {x:bb},jB P G->oJ G f=some x->bj P x/\x.f=f
 |[],f,x,_,h=>by simp[oJ]at h
 |y ::l,f,x,hG,h=>by
  simp only[oJ]at h
  split at h
  ·rename_i hb
   simp at h;subst h
   exact⟨hG y (by simp),bE hb⟩
  ·exact Gj (λz hz=>hG z (by simp[hz])) h
theorem Zs1:∀{rows:List Row} {i:Nat} {row:Row},rA rows->rows[i]?=some row->JK row
 |r::l,0,row,h,hi=>by simp at hi;subst hi;exact h.1
 |r::l,i+1,row,h,hi=>Zs1 h.2 (by simpa using hi)
 |[],i,row,_,hi=>by simp at hi
theorem nO{r:Nat}:∀{l:List Nat},da r l=true↔r∈l
 |[]=>by simp[da]
 |x ::l=>by
  simp only[da]
  cases hb:Nat.beq x r with
  |true=>have:=bE hb;subst this;simp
  |false=>
   have gv:¬r=x:=λe=>by rw[e]at hb;simp at hb
   simp[nO (l:=l),gv]
theorem Mw:∀{l m:List Nat},py l m=true↔ ∀r∈l,r∈m
 |[],m=>by simp[py]
 |x::l,m=>by
  simp only[py]
  cases hb:da x m with
  |true=>simp[Mw (l:=l),nO.1 hb]
  |false=>simp[show¬x∈m fromλe=>by rw[nO.2 e]at hb;cases hb]
theorem UQ:∀{l m:List Nat},pr l m=true↔ ∀r∈l,¬r∈m
 |[],m=>by simp[pr]
 |x::l,m=>by
  simp only[pr]
  cases hb:da x m with
  |true=>simp[nO.1 hb]
  |false=>simp[UQ (l:=l),show¬x∈m fromλe=>by rw[nO.2 e]at hb;cases hb]
theorem Mx:∀{l:List Nat},CR l=true↔l.Nodup
 |[]=>by simp[CR]
 |x::l=>by
  simp only[CR,List.nodup_cons]
  cases hb:da x l with
  |true=>simp[nO.1 hb]
  |false=>simp[Mx (l:=l),show¬x∈l fromλe=>by rw[nO.2 e]at hb;cases hb]
theorem Zs6{r:Nat}:∀{l:List Nat} {k:Nat},r∈l->∃j,pos r l k=k+j/\l[j]?=some r
 |x ::l,k,h=>by
  simp only[pos]
  cases hb:Nat.beq x r with
  |true=>exact⟨0,rfl,by simp[bE hb]⟩
  |false=>
   have gv:¬r=x:=λe=>by rw[e]at hb;simp at hb
   have hm:r∈l:=by simpa[gv]using h
   obtain⟨j,h1,h2⟩:=Zs6 (k:=k+1) hm
   exact⟨j+1,by show pos r l (k+1)=_;rw[h1];omega,by simpa using h2⟩
theorem Bl{r:Nat}{l:List Nat}(h:r∈l):l[pos r l 0]?=some r:=by
 obtain⟨j,h1,h2⟩:=Zs6 (k:=0) h
 rw[h1,bG];exact h2
structure Ec(S:Nat->Prop)(f:Nat->Nat)(du:Bool)(c1 c2:Ctx):Prop where
 row:∀i row,S i->c1.R i=some row->∃ao,c2.R (f i)=some ao/\ao.box=row.box/\ao.ty=row.ty/\ao.sz=row.sz/\ao.es.l.length=row.es.l.length/\c2.ρ (f i)=c1.ρ i/\(c2.V (f i)↔c1.V i)
 base:du=true->c2.base<=c1.base
 top:c1.top<=c2.top
theorem vU(hs:mY d)(h:ga I w d v):ga I' w d v:=by
 cases h<;>first|exact hs.elim|constructor
theorem Ze1{I I':ab}{w:World}:∀{cs:List D} {arr:Array Value} {off:Nat},(∀d∈cs,mY d)->oK I w cs arr off->oK I' w cs arr off
 |[],_,_,_,_=>by simp[DD,DE]
 |d::cs,arr,off,hs,h=>by
  simp only[DD,DE]at h⊢
  obtain⟨⟨v,hv,hp⟩,hr⟩:=h
  exact⟨⟨v,hv,vU (hs d (by simp)) hp⟩,Ze1 (λe he=>hs e (by simp[he])) hr⟩
theorem Z2c{I I':ab}{w:World}:∀{es:List (List D)} {arr:Array Value} {off sz:Nat},(∀e∈es,∀d∈e,mY d)->iq I w es arr off sz->iq I' w es arr off sz
 |[],_,_,_,_,_=>by simp[pX,pL]
 |e::es,arr,off,sz,hs,h=>by
  simp only[pX,pL]at h⊢
  exact⟨h.1,Ze1 (hs e (by simp)) h.2.1,Z2c (λf hf=>hs f (by simp[hf])) h.2.2⟩
theorem VRep.Ep{c:Ctx}(h:dc c w d v):VRep c w d v:=by cases d<;>first|exact h|exact h.elim
theorem VRep.toC{c:Ctx}(hd:∀cs,d≠.agg cs)(h:VRep c w d v):dc c w d v:=by cases d<;>first|exact h|exact absurd rfl (hd _)
theorem Rep.KC{c:Ctx}(h:VRep c w d v):Rep c w d v:=by cases d<;>first|exact h|exact h.elim|trivial
theorem Rep.toV{c:Ctx}(hd:∀ds,d≠.dw ds)(h0:d≠.dead)(h:Rep c w d v):VRep c w d v:=by cases d<;>first|exact h|exact absurd rfl (hd _)|exact absurd rfl h0
theorem Z6i{f:Nat->Nat}{du:Bool}:∀{e:List D},(D.mz f du e).length=e.length
 |[]=>rfl
 |d::l=>by simp[D.mz,Z6i (e:=l)]
section
variable {S:Nat->Prop} {f:Nat->Nat} {du:Bool} {c1 c2:Ctx} {w:World} (hn:Ec S f du c1 c2) {flat:Prop} (hI:(∀b,c1.I b->c2.I b)\/(flat/\∀b,c1.I b->c1.base<=b->c2.I b))
include hn hI
theorem Zn6(gv:∀f cs,d≠.gm f cs)(hS:∀r∈nL d,S r)(jy:flat->QY d)(h:dc c1 w d v):dc c2 w (d.my f du) v:=by
 cases d with
 |sl sz es fr=>
  obtain⟨a,cap,hv,hc,gu⟩:=h
  refine⟨a,cap,hv,hc,?_⟩
  rcases gu with gu|⟨b,off,arr,ty,fz,ha,ij,hf,hh,hE⟩
  ·exact .inl gu
  ·have hb:(fr&&du)=true->c2.base<=b:=λe=>by
    simp only[aE]at e
    exact Nat.le_trans (hn.base e.2) (hf e.1)
   rcases hI with hi|⟨Fw,hi⟩
   ·exact .inr ⟨b,off,arr,ty,fz,ha,hi b ij,hb,hh,nB (λb hb=>⟨hi b hb,rfl⟩) _ _ _ _ hE⟩
   ·obtain⟨h1,h2⟩:=jy Fw
    rcases h1 with h1|h1
    ·exact .inl (ai.og.1 h1)
    ·exact .inr ⟨b,off,arr,ty,fz,ha,hi b ij (hf h1),hb,hh,Z2c (ai.CQ h2) hE⟩
 |all r=>
  obtain⟨row,hr,hb,h⟩:=h
  obtain⟨ao,g1,g2,g3,g4,g5,g6,gV⟩:=hn.row r row (hS r (by simp[nL])) hr
  refine⟨ao,g1,g2.trans hb,?_⟩
  rcases h with⟨hV,hv⟩|⟨hV,cap,arr,hv,h1,h2,h3,h4⟩
  ·obtain⟨a,hv,ho⟩:=hv;exact .inl ⟨gV.2 hV,a,hv,ho.mono hn.top⟩
  ·exact .inr ⟨λe=>hV (gV.1 e),cap,arr,by rw[hv,g5,g6],by rw[g5];exact h1,h2,by rw[g6,g3];exact h3,by rw[g4];exact h4⟩
 |own r o n=>
  obtain⟨row,hr,hb,ho,h⟩:=h
  obtain⟨ao,g1,g2,g3,g4,g5,g6,gV⟩:=hn.row r row (hS r (by simp[nL])) hr
  refine⟨ao,g1,g2.trans hb,by rw[g5];exact ho,?_⟩
  rcases h with⟨h0,a,hv,jo⟩|⟨hV,cap,arr,h1,h2,h3,h4,h5⟩
  ·exact .inl ⟨h0,a,hv,jo.mono hn.top gV g6⟩
  ·exact .inr ⟨λe=>hV (gV.1 e),cap,arr,h1,h2,by rw[g6,g3];exact h3,by rw[g4,g6];exact h4,by rw[g4];exact h5⟩
 |ptr r i off=>
  obtain⟨row,hr,hV,hi,hv⟩:=h
  obtain⟨ao,g1,g2,g3,g4,g5,g6,gV⟩:=hn.row r row (hS r (by simp[nL])) hr
  exact⟨ao,g1,λe=>hV (gV.1 e),by rw[g5];exact hi,by rw[hv,g6,g4]⟩
 |pa r i off len k n=>
  obtain⟨bd,row,hr,hV,hi,hv⟩:=h
  obtain⟨ao,g1,g2,g3,g4,g5,g6,gV⟩:=hn.row r row (hS r (by simp[nL])) hr
  exact⟨bd,ao,g1,λe=>hV (gV.1 e),by rw[g5];exact hi,by rw[hv,g6,g4]⟩
 |iu sz es i off=>
  obtain⟨b,o,arr,ty,fz,hv,ij,iG,hh,hE⟩:=h
  rcases hI with hi|⟨Fw,hi⟩
  ·exact⟨b,o,arr,ty,fz,hv,hi b ij,iG,hh,nB (λb hb=>⟨hi b hb,rfl⟩) _ _ _ _ hE⟩
  ·exact(jy Fw).elim
 |gq r=>
  rcases h with h|⟨row,hr,hV,hi,hv⟩
  ·exact .inl h
  ·obtain⟨ao,g1,g2,g3,g4,g5,g6,gV⟩:=hn.row r row (hS r (by simp[nL])) hr
   exact .inr ⟨ao,g1,λe=>hV (gV.1 e),by rw[g5];exact hi,by rw[hv,g6,g4]⟩
 |gm f cs=>exact absurd rfl (gv f cs)
 |emp=>obtain⟨a,hv,ho⟩:=h;exact⟨a,hv,ho.mono hn.top⟩
 |_=>exact h
theorem Zht(hS:∀r∈nL d,S r)(jy:flat->QY d)(h:dc c1 w d v):dc c2 w (d.my f du) v:=by
 by_cases e:∃g cs,d=.gm g cs
 ·obtain⟨g,cs,rfl⟩:=e
  obtain⟨us,hv,hu⟩:=h
  have hi:∀b,c1.I b->c2.I b/\w.heap[b]?=w.heap[b]? :=by
   rcases hI with hi|⟨Fw,_⟩
   ·exactλb hb=>⟨hi b hb,rfl⟩
   ·exact(jy Fw).elim
  exact⟨us,MB hi hv,ZT (Fk:=λ_=>True) (λd v h1 h2 h3=>Zn6 hn (flat:=False) (.inl λb hb=>(hi b hb).1) h1 h2 (λe=>e.elim) h3) (λ_ _ _ _=>MB hi) (λ_ _ _=>trivial) hS hu⟩
 ·exact Zn6 hn hI (λf cs e'=>e ⟨f,cs,e'⟩) hS jy h
theorem Zrs:∀{ds:List D} {vs:List Value},(∀r∈pR ds,S r)->(flat->MF ds)->jm c1 w ds vs->jm c2 w (D.mz f du ds) vs
 |[],[],_,_,_=>trivial
 |d::ds,v::vs,hS,jy,h=>⟨Zht hn hI (λr hr=>hS r (by simp[pR,hr])) (λe=>(jy e).1) h.1,Zrs (λr hr=>hS r (by simp[pR,hr])) (λe=>(jy e).2) h.2⟩
 |[],_::_,_,_,h=>h.elim
 |_::_,[],_,_,h=>h.elim
theorem QZ(hS:∀r∈Fp d,S r)(jy:flat->Ve d)(h:VRep c1 w d v):VRep c2 w (d.jg f du) v:=by
 cases d with
 |agg cs=>obtain⟨vs,hv,hr⟩:=h;exact⟨vs,hv,Zrs hn hI hS jy hr⟩
 |dw ds=>exact h.elim
 |_=>
  refine VRep.Ep (Zht hn hI ?_ ?_ (VRep.toC ?_ h))
  ·exact hS
  ·exact jy
  ·intro cs e;cases e
theorem Zqx:∀{ds:List D} {vs:List Value},(∀d∈ds,∀r∈Fp d,S r)->(flat->Fv ds)->kj c1 w ds vs->kj c2 w (D.AF f du ds) vs
 |[],[],_,_,_=>trivial
 |d::ds,v::vs,hS,jy,h=>⟨QZ hn hI (hS d (by simp)) (λe=>(jy e).1) h.1,Zqx (λd hd=>hS d (by simp[hd])) (λe=>(jy e).2) h.2⟩
 |[],_::_,_,_,h=>h.elim
 |_::_,[],_,_,h=>h.elim
theorem ZL(hS:∀r,S r)(jy:flat->FF d)(h:Rep c1 w d v):Rep c2 w (d.sS f du) v:=by
 cases d with
 |dw ds=>obtain⟨vs,hv,hr⟩:=h;exact⟨vs,hv,Zqx hn hI (λ_ _ r _=>hS r) jy hr⟩
 |agg cs=>exact QZ hn hI (d:=.agg cs) (λr _=>hS r) jy h
 |dead=>trivial
 |_=>
  have h':=Rep.toV (λds e=>by cases e) (λe=>by cases e) h
  have h2:=QZ hn hI (λr _=>hS r) (λe=>by have:=jy e;exact this) h'
  exact Rep.KC h2
theorem Vf:∀{ds:List D} {arr:Array Value} {off:Nat},(∀r∈pR ds,S r)->(flat->MF ds)->kG c1 w ds arr off->kG c2 w (D.mz f du ds) arr off
 |[],_,_,_,_,_=>trivial
 |d::ds,arr,off,hS,jy,⟨⟨v,hv,h1⟩,h2⟩=>⟨⟨v,hv,Zht hn hI (λr hr=>hS r (by simp[pR,hr])) (λe=>(jy e).1) h1⟩,Vf (λr hr=>hS r (by simp[pR,hr])) (λe=>(jy e).2) h2⟩
theorem ZJ{i j:Nat}(QQ:c2.ρ j=c1.ρ i)(hV:c2.V j↔c1.V i)(hS:row.box=true->∀e,row.es=.gen [e]->∀r∈pR e,S r)(jy:flat->JK row)(h:Et c1 w i row):Et c2 w j (row.jg f du):=by
 have sh:(row.jg f du).box=row.box/\(row.jg f du).ty=row.ty/\(row.jg f du).sz=row.sz:=by
  unfold Row.jg;split<;>exact⟨rfl,rfl,rfl⟩
 rcases h with⟨h0,h1,h2,h3⟩|⟨h0,arr,ha,hs,hx⟩
 ·refine .inl ⟨hV.2 h0,?_⟩
  unfold Row.jg
  split
  ·simp at h1
  ·exact⟨h1,h2,h3⟩
 ·refine .inr ⟨λe=>h0 (hV.1 e),arr,by rw[QQ,sh.2.1];exact ha,by rw[sh.2.2];exact hs,?_⟩
  rw[sh.1,sh.2.2]
  split
  ·rename_i hb
   simp only[hb,if_true]at hx
   obtain⟨e,k1,k2,k3,k4⟩:=hx
   obtain⟨box,ty,sz,es⟩:=row
   simp only at hb k1 k2 k3 k4
   subst hb;subst k1
   refine⟨D.mz f du e,rfl,?_,k3,Vf hn hI (hS rfl e rfl) (λe'=>?_) k4⟩
   ·rw[Z6i];exact k2
   ·have:=jy e'
    simp only[JK,if_true]at this
    exact this e (by simp[ai.l])
  ·rename_i hb
   simp only[hb,aA,if_false]at hx
   have he:(row.jg f du).es=row.es:=by
    unfold Row.jg
    split
    ·simp at hb
    ·rfl
   rw[he]
   rcases hI with hi|⟨Fw,hi⟩
   ·exact nB (λb hb=>⟨hi b hb,rfl⟩) _ _ _ _ hx
   ·have:=jy Fw
    simp only[JK,hb,aA,if_false]at this
    exact Z2c (ai.CQ this) hx
end
def Ctx.pass(c:Ctx)(w:World)(ids:List Nat)(rows:List Row)(len:Bool):Ctx:=
 { ρ:=λi=>match ids[i]? with|some r=>c.ρ r|none=>0,R:=λi=>rows[i]?,V:=λi=>match ids[i]? with|some r=>c.V r|none=>False,
   I:=λb=>c.I b\/(len=true/\ ∃r row,c.R r=some row/\ ¬c.V r/\row.box=false/\r∉ids/\c.ρ r=b),base:=w.heap.size,top:=c.top,X:=λ_=>False}
section
variable {c:Ctx} {w:World} {R:Rows} {ids:List Nat} {dz:List Row} {len:Bool}
theorem Zrk(hm:Mem c w)(hA:mh c R)(h:Fo R d=some d')(hl:nL d≠[]->len=true)(hd:∀r∈nL d,r∉ids)(hr:dc c w d v):dc (c.pass w ids dz len) w d' v:=by
 have nG:∀b,c.I b->(c.pass w ids dz len).I b/\w.heap[b]?=w.heap[b]? :=λb hb=>⟨.inl hb,rfl⟩
 cases d<;>simp only[Fo]at h<;>try(cases h;done)
 case bool b=>cases h;exact hr
 case int k n=>cases h;exact hr
 case str s=>cases h;exact hr
 case iz=>cases h;exact hr
 case jJ=>cases h;exact hr
 case c8=>cases h;exact⟨none,0,hr,aX _,.inl rfl⟩
 case emp=>cases h;obtain⟨a,hv,_⟩:=hr;exact⟨a,0,hv,aX _,.inl rfl⟩
 case sl sz es fr=>
  cases h
  obtain⟨a,cap,hv,hc,gu⟩:=hr
  refine⟨a,cap,hv,hc,?_⟩
  rcases gu with gu|⟨b,off,arr,ty,fz,ha,hI,hf,hh,hE⟩
  ·exact .inl gu
  ·exact .inr ⟨b,off,arr,ty,fz,ha,.inl hI,by simp,hh,nB nG _ _ _ _ hE⟩
 case all r=>
  split at h
  ·rename_i row hR
   split at h
   ·rename_i hb
    cases h
    obtain⟨ao,g1,g2,hv⟩:=hr
    have:=hA r ao _ g1 hR
    subst this
    rcases hv with⟨hV,a,hv,_⟩|⟨hV,cap,arr,hv,g3,g4,g5,g6⟩
    ·have he:=(hm.nz g1 hV).2.1
     exact⟨a,0,by rw[he];exact hv,by rw[he];exact aX _,.inl he⟩
    refine⟨_,cap,hv,g3,?_⟩
    obtain⟨iK,jC,hs,hx⟩:=hm.real g1 hV
    rw[g5]at jC;cases jC
    simp only[hb,aA,if_false]at hx
    exact .inr ⟨_,0,arr,_,_,rfl,.inr ⟨hl (by simp[nL]),r,_,g1,hV,hb,hd r (by simp[nL]),rfl⟩,by simp,g5,nB nG _ _ _ _ hx⟩
   ·cases h
  ·cases h
 case own r o n=>
  split at h
  ·rename_i row hR
   split at h
   ·rename_i hb
    cases h
    obtain⟨ao,g1,g2,g5,hv⟩:=hr
    have:=hA r ao _ g1 hR
    subst this
    have hlen:((ao.es.drop o).take n).l.length=n:=by rw[ai.iY,ai.kq];simp only[List.length_take,List.length_drop];omega
    rcases hv with⟨g7,a,hv,_⟩|⟨hV,cap,arr,g3,g4,g6,hv,g7⟩
    ·subst g7
     exact⟨a,0,by rw[hlen];exact hv,by omega,.inl (by rw[ai.iY];simp)⟩
    obtain⟨iK,jC,hs,hx⟩:=hm.real g1 hV
    rw[g6]at jC;cases jC
    simp only[hb,aA,if_false]at hx
    refine⟨_,cap,by rw[hlen];exact hv,by omega,.inr ⟨_,o*ao.sz,arr,_,_,rfl,.inr ⟨hl (by simp[nL]),r,_,g1,hV,hb,hd r (by simp[nL]),rfl⟩,by simp,g6,nB nG _ _ _ _ ?_⟩⟩
    have:=Ms (n:=n) (Kx (l:=o) hx)
    rw[ai.iY,ai.kq]
    simpa using this
   ·cases h
  ·cases h
theorem Zql(hm:Mem c w)(hA:mh c R):∀{ds od:List D} {vs:List Value},JG R ds=some od->(pR ds≠[]->len=true)->(∀r∈pR ds,r∉ids)->jm c w ds vs->jm (c.pass w ids dz len) w od vs
 |[],od,[],h,_,_,_=>by simp[JG]at h;subst h;trivial
 |[],_,_::_,_,_,_,hr=>hr.elim
 |_::_,_,[],_,_,_,hr=>hr.elim
 |d ::ds,od,v::vs,h,hl,hd,hr=>by
  simp only[JG]at h
  split at h
  ·rename_i x xs h1 h2
   cases h
   exact⟨Zrk hm hA h1 (λe=>hl (by simp[pR,e])) (λr e=>hd r (by simp[pR,e])) hr.1,Zql hm hA h2 (λe=>hl (by simp[pR,e])) (λr e=>hd r (by simp[pR,e])) hr.2⟩
  ·cases h
theorem Zs7(hm:Mem c w)(hA:mh c R)(h:conv R d=some d')(hl:Fp d≠[]->len=true)(hd:∀r∈Fp d,r∉ids)(hr:Rep c w d v):VRep (c.pass w ids dz len) w d' v:=by
 cases d with
 |agg cs=>
  simp only[conv,Option.map_eq_some_iff]at h
  obtain⟨rI,h1,rfl⟩:=h
  obtain⟨vs,hv,hx⟩:=hr
  exact⟨vs,hv,Zql hm hA h1 hl hd hx⟩
 |dw ds=>simp[conv,Fo]at h
 |dead=>simp[conv,Fo]at h
 |_=>
  simp only[conv]at h
  simp only[Rep,VRep]at hr
  exact VRep.Ep (Zrk hm hA h hl hd hr)
theorem Fm{f:Nat->Nat}:∀{ids:List Nat} {rows:List Row},Bk R f ids=some rows->rows.length=ids.length/\∀(i r:Nat),ids[i]?=some r->∃row,R.getD r none=some row/\rows[i]?=some (row.jg f false)
 |[],rows,h=>by simp[Bk]at h;subst h;exact⟨rfl,λi r h=>by simp at h⟩
 |r ::l,rows,h=>by
  simp only[Bk]at h
  split at h
  ·rename_i row rs h1 h2
   cases h
   obtain⟨g1,g2⟩:=Fm h2
   refine⟨by simp[g1],λi q hq=>?_⟩
   cases i with
   |zero=>simp at hq;subst hq;exact⟨row,h1,rfl⟩
   |succ i=>exact g2 i q (by simpa using hq)
  ·cases h
theorem JE(f:Nat->Nat)(du:Bool)(row:Row):(row.jg f du).box=row.box/\(row.jg f du).ty=row.ty/\(row.jg f du).sz=row.sz/\(row.jg f du).es.l.length=row.es.l.length:=by
 unfold Row.jg;split<;>exact⟨rfl,rfl,rfl,rfl⟩
theorem Z84{r:Nat}:∀{l:List Nat},r∈CJ R l↔ ∃q∈l,∃ty sz e,R.getD q none=some ⟨true,ty,sz,.gen [e]⟩/\r∈pR e
 |[]=>by simp[CJ]
 |q ::l=>by
  simp only[CJ,List.mem_append,Z84 (l:=l),cQ]
  constructor
  ·rintro(h|⟨q',h1,h2⟩)
   ·split at h
    ·rename_i ty sz e he
     exact⟨q,.inl rfl,ty,sz,e,he,h⟩
    ·simp at h
   ·exact⟨q',.inr h1,h2⟩
  ·rintro⟨q',h1|h1,ty,sz,e,h2,h3⟩
   ·subst h1
    left
    rw[h2];exact h3
   ·exact .inr ⟨q',h1,ty,sz,e,h2,h3⟩
theorem UW(hR:∀r row,r∈ids->R.getD r none=some row->c.R r=some row)(db:Bk R (λr=>pos r ids 0) ids=some dz):Ec (λr=>r∈ids) (λr=>pos r ids 0) false c (c.pass w ids dz len):=by
 obtain⟨hl,hg⟩:=Fm db
 refine⟨λr row hr c6=>?_,(λh=>by cases h),aX _⟩
 have hp:=Bl hr
 obtain⟨jI,h1,h2⟩:=hg _ r hp
 have:row=jI:=by have:=hR r jI hr h1;rw[c6]at this;exact Option.some.inj this
 subst this
 obtain⟨s1,s2,s3,s4⟩:=JE (λr=>pos r ids 0) false row
 exact⟨_,h2,s1,s2,s3,s4,by simp[Ctx.pass,hp],by simp[Ctx.pass,hp]⟩
theorem ZK(hm:Mem c w)(hR:∀r row,r∈ids->R.getD r none=some row->c.R r=some row)(kU:ids.Nodup)(jn:∀r∈CJ R ids,r∈ids)(db:Bk R (λr=>pos r ids 0) ids=some dz):Mem (c.pass w ids dz len) w:=by
 have hn:=UW (len:=len) (w:=w) hR db
 obtain⟨hl,hg⟩:=Fm db
 have inv:∀i x,(c.pass w ids dz len).R i=some x->∃r row,ids[i]?=some r/\c.R r=some row/\R.getD r none=some row/\x=row.jg (λr=>pos r ids 0) false/\(c.pass w ids dz len).ρ i=c.ρ r/\((c.pass w ids dz len).V i↔c.V r):=by
  intro i x hx
  have jK:dz[i]?=some x:=hx
  have bd:=(List.getElem?_eq_some_iff.1 jK).1
  have hi:ids[i]?=some ids[i]:=aI (by omega)
  obtain⟨row,h1,h2⟩:=hg i _ hi
  rw[jK]at h2
  exact⟨_,row,hi,hR _ row (fO hi) h1,h1,Option.some.inj h2,by simp[Ctx.pass,hi],by simp[Ctx.pass,hi]⟩
 refine⟨λi x hx=>?_,λi j x y hx hy v1 v2 he=>?_,λb hb=>?_,hm.top,hm.jY.mono λb hb=>⟨.inl hb,rfl⟩⟩
 ·obtain⟨r,row,g1,g2,g3,rfl,g5,g6⟩:=inv i x hx
  refine ZJ hn (flat:=False) (.inl λb hb=>.inl hb) g5 g6 (λFx e he q hq=>?_) (λe=>e.elim) (hm.row r row g2)
  obtain⟨box,ty,sz,es⟩:=row
  simp only at Fx he
  subst Fx
  have h1:∃e0,es=.gen [e0]:=by
   rcases hm.row r _ g2 with⟨_,hh,_⟩|⟨_,arr,_,_,hx⟩
   ·cases hh
   ·simp only[if_true]at hx;obtain⟨e0,h,_⟩:=hx;exact⟨e0,h⟩
  obtain⟨e0,rfl⟩:=h1
  cases he
  exact jn q (Z84.2 ⟨r,fO g1,ty,sz,e,g3,hq⟩)
 ·obtain⟨r,row,g1,g2,g3,_,g5,g6⟩:=inv i x hx
  obtain⟨s,ao,k1,k2,k3,_,k5,k6⟩:=inv j y hy
  rw[g5,k5]at he
  have:r=s:=hm.inj r s _ _ g2 k2 (λe=>v1 (g6.2 e)) (λe=>v2 (k6.2 e)) he
  subst this
  exact(List.getElem?_inj (List.getElem?_eq_some_iff.1 g1).1 kU).1 (g1.trans k1.symm)
 ·rcases hb with hb|⟨_,r,row,hr,hV,wH,IA,rfl⟩
  ·refine⟨(hm.fh b hb).1,λi x hx v=>?_⟩
   obtain⟨r,row,g1,g2,g3,_,g5,g6⟩:=inv i x hx
   rw[g5];exact(hm.fh b hb).2 r row g2 (λe=>v (g6.2 e))
  ·refine⟨hm.lt hr hV,λi x hx v=>?_⟩
   obtain⟨s,ao,g1,g2,g3,_,g5,g6⟩:=inv i x hx
   rw[g5]
   intro e
   have:=hm.inj s r _ _ g2 hr (λe=>v (g6.2 e)) hV e
   subst this
   exact IA (fO g1)
theorem My(hm:Mem c w)(hA:mh c R)(hn:Ec (λr=>r∈ids) (λr=>pos r ids 0) false c (c.pass w ids dz len)){ρ:Operand->Value}{ev:Operand->D}:
 ∀{bs:List Bool} {xs:List Operand} {od:List D},sO R (λr=>pos r ids 0) bs (xs.map ev)=some od->(lJ bs (xs.map ev)≠[]->len=true)->(∀r∈lJ bs (xs.map ev),r∉ids)->(∀r∈CS bs (xs.map ev),r∈ids)->(∀x∈xs,Rep c w (ev x) (ρ x))->kj (c.pass w ids dz len) w od (xs.map ρ)
 |bs,[],od,h,_,_,_,_=>by cases bs<;>(try(rename_i b bs;cases b))<;>(simp[sO]at h;subst h;trivial)
 |true::bs,x::xs,od,h,hl,hd,hi,hr=>by
  simp only[fJ,sO]at h
  simp only[fJ,lJ,CS]at hl hd hi
  split at h
  ·rename_i ys hv h2
   cases h
   have hx:VRep c w (ev x) (ρ x):=Rep.toV (λds e=>by rw[e]at hv;simp[D.isVal]at hv) (λe=>by rw[e]at hv;simp[D.isVal]at hv) (hr x (by simp))
   exact⟨QZ hn (flat:=False) (.inl λb hb=>.inl hb) (λr e=>hi r (by simp[e])) (λe=>e.elim) hx,My hm hA hn h2 hl hd (λr e=>hi r (by simp[e])) λy hy=>hr y (by simp[hy])⟩
  ·cases h
 |false::bs,x::xs,od,h,hl,hd,hi,hr=>by
  simp only[fJ,sO]at h
  simp only[fJ,lJ,CS]at hl hd hi
  split at h
  ·rename_i y ys h1 h2
   cases h
   exact⟨Zs7 hm hA h1 (λe=>hl (by simp[e])) (λr e=>hd r (by simp[e])) (hr x (by simp)),My hm hA hn h2 (λe=>hl (by simp[e])) (λr e=>hd r (by simp[e])) hi λy hy=>hr y (by simp[hy])⟩
  ·cases h
 |[],x::xs,od,h,hl,hd,hi,hr=>by
  simp only[fJ,sO]at h
  simp only[fJ,lJ,CS]at hl hd hi
  split at h
  ·rename_i y ys h1 h2
   cases h
   refine⟨Zs7 hm hA h1 (λe=>hl (by simp[e])) (λr e=>hd r (by simp[e])) (hr x (by simp)),My hm hA hn h2 (λe=>hl (by simp[e])) (λr e=>hd r (by simp[e])) (λr e=>?_) λy hy=>hr y (by simp[hy])⟩
   cases xs<;>simp[CS]at e
  ·cases h
end
theorem Vg{f:Nat->Nat}:∀{ids:List Nat} {rows:List Row} {R:Rows},ids.Nodup->ids.length<=rows.length->(∀r∈ids,r<R.length)->
 (tQ f ids rows R).length=R.length/\(∀(i r:Nat),ids[i]?=some r->∃row,rows[i]?=some row/\(tQ f ids rows R).getD r none=some (row.jg f true))/\∀r,r∉ids->(tQ f ids rows R).getD r none=R.getD r none
 |[],rows,R,_,_,_=>by
  have:tQ f [] rows R=R:=by cases rows<;>rfl
  rw[this]
  exact⟨rfl,λi r h=>by simp at h,λ_ _=>rfl⟩
 |r::ids,[],R,_,hl,_=>by simp at hl
 |r ::ids,row::rows,R,kU,hl,bd=>by
  obtain⟨IA,JD⟩:=List.nodup_cons.1 kU
  obtain⟨g1,g2,g3⟩:=Vg (f:=f) (ids:=ids) (rows:=rows) (R:=R.set r (some (row.jg f true))) JD (by simpa using hl) (λq hq=>by simpa using bd q (by simp[hq]))
  have hr:=bd r (by simp)
  have ZF:(R.set r (some (row.jg f true))).getD r none=some (row.jg f true):=by simp[aV,hr]
  have gv:∀q,q≠r->(R.set r (some (row.jg f true))).getD q none=R.getD q none:=λq hq=>by simp[aV,List.getElem?_set_ne (Ne.symm hq)]
  simp only[tQ]
  refine⟨by simpa using g1,λi q hq=>?_,λq hq=>?_⟩
  ·cases i with
   |zero=>
    simp at hq;subst hq
    exact⟨row,rfl,by rw[g3 _ IA];exact ZF⟩
   |succ i=>simpa using g2 i q (by simpa using hq)
  ·have h1:q≠r:=λe=>hq (by simp[e])
   rw[g3 q (λe=>hq (by simp[e])),gv q h1]
def Ctx.behind(c:Ctx)(w:World)(c':Ctx)(ids:List Nat)(n0:Nat)(R2:Rows):Ctx:=
 { ρ:=λr=>if n0<=r/\r<R2.length then c'.ρ (ids.length+(r-n0)) else c.ρ r,
   R:=λr=>if r∈ids\/(n0<=r/\r<R2.length) then R2.getD r none else c.R r,
   V:=λr=>if n0<=r/\r<R2.length then c'.V (ids.length+(r-n0)) else c.V r,
   I:=λb=>c.I b\/(c'.I b/\w.heap.size<=b),base:=c.base,top:=c'.top,X:=c.X}
theorem Zoh{f:Nat->Nat}{rows:List Row}:(Bo f rows)[i]?=rows[i]?.map λrow=>some (row.jg f true):=by simp[Bo]
theorem Z6d{c c':Ctx}{R:Rows}{ids:List Nat}{dz aj:List Row}{len:Bool}(hm:Mem c w)(hb:c.base<=w.heap.size)(nS:∀r row,r∈ids->R.getD r none=some row->c.R r=some row)(ez:∀r,R.length<=r->r<R.length+(aj.length-ids.length)->c.R r=none)
 (kU:ids.Nodup) (db:Bk R (λr=>pos r ids 0) ids=some dz) (hle:ids.length<=aj.length) (hx:lM (c.pass w ids dz len) w c' w') (j6:∀i,c'.R i=aj[i]?)
 (hI:len=true->rA aj) {R2:Rows} (uH:R2=tQ (bk ids R.length) ids aj R++Bo (bk ids R.length) (aj.drop ids.length)):
 (Ec (λ_=>True) (bk ids R.length) true c' (c.behind w c' ids R.length R2))/\((∀b,c'.I b->(c.behind w c' ids R.length R2).I b)\/(len=true/\∀b,c'.I b->c'.base<=b->(c.behind w c' ids R.length R2).I b))/\
 Mem (c.behind w c' ids R.length R2) w'/\Q4 c w (c.behind w c' ids R.length R2) w'/\Fr (λb=>∃r x,c.R r=some x/\¬c.V r/\r∈ids/\c.ρ r=b) w w'/\
 (∀b,(c.behind w c' ids R.length R2).I b->c.I b\/w.heap.size<=b)/\
 (∀r,R.length<=r->r<R2.length->¬(c.behind w c' ids R.length R2).V r->w.heap.size<=(c.behind w c' ids R.length R2).ρ r):=by
 obtain⟨jn,Ay⟩:=Fm db
 have bd:∀r∈ids,r<R.length:=λr hr=>by
  obtain⟨row,h1,_⟩:=Ay _ r (Bl hr)
  by_cases hl:r<R.length
  ·exact hl
  ·rw[aV,aJ (by omega)]at h1;cases h1
 obtain⟨k1,k2,k3⟩:=Vg (f:=bk ids R.length) kU hle bd
 have wc:R2.length=R.length+(aj.length-ids.length):=by rw[uH];simp[k1,Bo]
 have QL:∀r,r<R.length->R2.getD r none=(tQ (bk ids R.length) ids aj R).getD r none:=λr hr=>by
  rw[uH,aV,aV,bI (by omega)]
 have ZI:∀i,ids.length<=i->i<aj.length->R2.getD (R.length+(i-ids.length)) none=aj[i]?.map λrow=>row.jg (bk ids R.length) true:=λi h1 h2=>by
  rw[uH,aV,List.getElem?_append_right (by omega),Zoh,k1,show R.length+(i-ids.length)-R.length=i-ids.length by omega,fL,show ids.length+(i-ids.length)=i by omega]
  rw[aI h2];rfl
 have jj:c'.base=w.heap.size:=hx.cz.base
 have jD:∀i r ao,ids[i]?=some r->c'.R i=some ao->∃row,c.R r=some row/\ao.box=row.box/\ao.ty=row.ty/\ao.sz=row.sz/\ao.es.l.length=row.es.l.length/\c'.ρ i=c.ρ r/\(c'.V i↔c.V r)/\r<R.length/\R2.getD r none=some (ao.jg (bk ids R.length) true)/\bk ids R.length i=r/\
  (¬c.V r->∀arr,w.heap[c.ρ r]?=some (.cells arr row.ty (0,0))->∃iK,w'.heap[c.ρ r]?=some (.cells iK row.ty (0,0))/\iK.size=arr.size):=by
  intro i r ao hi jl
  obtain⟨row,h1,h2⟩:=Ay i r hi
  have mn:=fO hi
  have h3:=nS r row mn h1
  obtain⟨sL,g1,g2,g3,g4,g5,g6,gV,g7⟩:=hx.cz.R i _ (show(c.pass w ids dz len).R i=some _ from h2)
  rw[jl]at g1;cases g1
  obtain⟨s1,s2,s3,s4⟩:=JE (λr=>pos r ids 0) false row
  obtain⟨kL,q1,q2⟩:=k2 i r hi
  rw[j6,q1]at jl;cases jl
  refine⟨row,h3,g2.trans s1,g3.trans s2,g4.trans s3,g5.trans s4,by simpa[Ctx.pass,hi]using g6,by simpa[Ctx.pass,hi]using gV,bd r mn,by rw[QL r (bd r mn)];exact q2,by simp[bk,hi],λnv arr ha=>?_⟩
  have:=g7 (by simpa[Ctx.pass,hi]using nv) arr (by simpa[Ctx.pass,hi,s2]using ha)
  simpa[Ctx.pass,hi,s2]using this
 have fresh:∀i ao,ids.length<=i->c'.R i=some ao->i<aj.length/\R2.getD (R.length+(i-ids.length)) none=some (ao.jg (bk ids R.length) true)/\bk ids R.length i=R.length+(i-ids.length)/\(¬c'.V i->w.heap.size<=c'.ρ i):=by
  intro i ao hi jl
  have h1:aj[i]?=some ao:=by rw[<-j6];exact jl
  have h2:=(List.getElem?_eq_some_iff.1 h1).1
  refine⟨h2,by rw[ZI i hi h2,h1];rfl,by simp[bk,aJ hi],λnv=>?_⟩
  rcases hx.oc i ao jl nv with⟨⟨x,o7⟩,_⟩|h3
  ·have:dz[i]?=some x:=o7
   rw[aJ (by omega)]at this;cases this
  ·exact h3
 have CH:Ec (λ_=>True) (bk ids R.length) true c' (c.behind w c' ids R.length R2):=by
  refine⟨λi ao _ jl=>?_,λ_=>by rw[jj];exact hb,aX _⟩
  obtain⟨s1,s2,s3,s4⟩:=JE (bk ids R.length) true ao
  by_cases hi:i<ids.length
  ·have iG:ids[i]?=some ids[i]:=aI hi
   obtain⟨row,g1,g2,g3,g4,g5,g6,g7,g8,g9,g10,_⟩:=jD i _ ao iG jl
   rw[g10]
   exact⟨_,by simp only[Ctx.behind];rw[if_pos (.inl (fO iG))];exact g9,s1,s2,s3,s4,by simp only[Ctx.behind];rw[if_neg (by omega),g6],by simp only[Ctx.behind];rw[if_neg (by omega)];exact g7.symm⟩
  ·obtain⟨h1,h2,h3,h4⟩:=fresh i ao (by omega) jl
   rw[h3]
   have hc:R.length<=R.length+(i-ids.length)/\R.length+(i-ids.length)<R2.length:=by omega
   have he:ids.length+(R.length+(i-ids.length)-R.length)=i:=by omega
   exact⟨_,by simp only[Ctx.behind];rw[if_pos (.inr hc)];exact h2,s1,s2,s3,s4,by simp only[Ctx.behind];rw[if_pos hc,he],by simp only[Ctx.behind];rw[if_pos hc,he]⟩
 have CU:(∀b,c'.I b->(c.behind w c' ids R.length R2).I b)\/(len=true/\∀b,c'.I b->c'.base<=b->(c.behind w c' ids R.length R2).I b):=by
  cases hl:len with
  |false=>
   refine .inl λb ij=>?_
   rcases hx.fh b ij with h1|h1
   ·rcases h1 with h1|⟨h1,_⟩
    ·exact .inl h1
    ·rw[hl]at h1;cases h1
   ·exact .inr ⟨ij,h1⟩
  |true=>exact .inr ⟨rfl,λb ij hbb=>.inr ⟨ij,by omega⟩⟩
 have BT:Fr (λb=>∃r x,c.R r=some x/\¬c.V r/\r∈ids/\c.ρ r=b) w w':=hx.fr.mono λb _ ⟨i,x,h1,h2,h3⟩=>by
  have r3:dz[i]?=some x:=h1
  have hi:i<ids.length:=by have:=(List.getElem?_eq_some_iff.1 r3).1;omega
  have iG:ids[i]?=some ids[i]:=aI hi
  obtain⟨row,g1,g2⟩:=Ay i _ iG
  exact⟨_,row,nS _ row (fO iG) g1,by simpa[Ctx.pass,iG]using h2,fO iG,by simpa[Ctx.pass,iG]using h3⟩
 have inv:∀r x,(c.behind w c' ids R.length R2).R r=some x->(∃i ao,c'.R i=some ao/\x=ao.jg (bk ids R.length) true/\(c.behind w c' ids R.length R2).ρ r=c'.ρ i/\((c.behind w c' ids R.length R2).V r↔c'.V i)/\(r∈ids/\ids[i]?=some r/\(c.behind w c' ids R.length R2).ρ r=c.ρ r/\((c.behind w c' ids R.length R2).V r↔c.V r)\/R.length<=r/\ids.length<=i/\r=R.length+(i-ids.length)))\/
  (c.R r=some x/\r∉ids/\(c.behind w c' ids R.length R2).ρ r=c.ρ r/\((c.behind w c' ids R.length R2).V r↔c.V r)/\¬(R.length<=r/\r<R2.length)):=by
  intro r x jK
  by_cases mn:r∈ids
  ·left
   have hp:=Bl mn
   obtain⟨kL,q1,q2⟩:=k2 _ r hp
   have sM:c'.R (pos r ids 0)=some kL:=by rw[j6];exact q1
   obtain⟨row,g1,g2,g3,g4,g5,g6,g7,g8,g9,g10,_⟩:=jD _ r kL hp sM
   simp only[Ctx.behind]at jK
   rw[if_pos (.inl mn),g9]at jK
   cases jK
   have e1:(c.behind w c' ids R.length R2).ρ r=c.ρ r:=by simp only[Ctx.behind];rw[if_neg (by omega)]
   have e2:(c.behind w c' ids R.length R2).V r↔c.V r:=by simp only[Ctx.behind];rw[if_neg (by omega)]
   exact⟨_,kL,sM,rfl,by rw[e1,g6],by rw[e2,g7],.inl ⟨mn,hp,e1,e2⟩⟩
  ·by_cases hc:R.length<=r/\r<R2.length
   ·left
    have hi:ids.length+(r-R.length)<aj.length:=by omega
    have sM:c'.R (ids.length+(r-R.length))=some aj[ids.length+(r-R.length)]:=by rw[j6];exact aI hi
    obtain⟨h1,h2,h3,h4⟩:=fresh _ _ (by omega) sM
    simp only[Ctx.behind]at jK
    rw[if_pos (.inr hc)]at jK
    rw[show R.length+(ids.length+(r-R.length)-ids.length)=r by omega]at h2
    rw[h2]at jK
    cases jK
    exact⟨_,_,sM,rfl,by simp only[Ctx.behind];rw[if_pos hc],by simp only[Ctx.behind];rw[if_pos hc],.inr ⟨hc.1,by omega,by omega⟩⟩
   ·right
    simp only[Ctx.behind]at jK
    rw[if_neg (by rintro(h|h)<;>contradiction)]at jK
    exact⟨jK,mn,by simp only[Ctx.behind];rw[if_neg hc],by simp only[Ctx.behind];rw[if_neg hc],hc⟩
 have pQ:Q4 c w (c.behind w c' ids R.length R2) w':=by
  refine⟨rfl,hx.cz.top,λb ij=>⟨.inl ij,?_⟩,λr row hr=>?_⟩
  ·exact(hx.cz.I b (.inl ij)).2
  ·by_cases mn:r∈ids
   ·have hp:=Bl mn
    obtain⟨kL,q1,q2⟩:=k2 _ r hp
    have sM:c'.R (pos r ids 0)=some kL:=by rw[j6];exact q1
    obtain⟨jI,g1,g2,g3,g4,g5,g6,g7,g8,g9,g10,g11⟩:=jD _ r kL hp sM
    rw[hr]at g1;cases g1
    obtain⟨s1,s2,s3,s4⟩:=JE (bk ids R.length) true kL
    exact⟨_,by simp only[Ctx.behind];rw[if_pos (.inl mn)];exact g9,s1.trans g2,s2.trans g3,s3.trans g4,s4.trans g5,by simp only[Ctx.behind];rw[if_neg (by omega)],by simp only[Ctx.behind];rw[if_neg (by omega)],g11⟩
   ·have hc:¬(R.length<=r/\r<R2.length):=λhc=>by rw[ez r hc.1 (by omega)]at hr;cases hr
    refine⟨row,by simp only[Ctx.behind];rw[if_neg (by rintro(h|h)<;>contradiction)];exact hr,rfl,rfl,rfl,rfl,by simp only[Ctx.behind];rw[if_neg hc],by simp only[Ctx.behind];rw[if_neg hc],λnv arr ha=>⟨arr,?_,rfl⟩⟩
    rw[BT.heap _ (hm.lt hr nv) fun⟨s,x,h1,h2,h3,h4⟩=>mn (by rw[<-hm.inj s r x row h1 hr h2 nv h4];exact h3)]
    exact ha
 refine⟨CH,CU,⟨λr x jK=>?_,λr s x y hr hs v1 v2 he=>?_,λb ij=>?_,hx.mem.top,hm.jY.mono pQ.I⟩,pQ,BT,λb ij=>?_,λr h1 h2 h3=>?_⟩
 ·rcases inv r x jK with⟨i,ao,h1,rfl,h3,h4,_⟩|⟨h1,h2,h3,h4,h5⟩
  ·refine ZJ CH CU h3 h4 (λ_ _ _ _ _=>trivial) (λhf=>?_) (hx.mem.row i ao h1)
   exact Zs1 (hI hf) (by rw[<-j6];exact h1)
  ·exact tw pQ h3 h4 (λnv=>BT.heap _ (hm.lt h1 nv) fun⟨s,x',g1,g2,g3,g4⟩=>h2 (by rw[<-hm.inj s r x' x g1 h1 g2 nv g4];exact g3)) (hm.row r x h1)
 ·have Hp:∀i ao,c'.R i=some ao->¬c'.V i->(∃q,q∈ids/\ids[i]?=some q/\(∃y,c.R q=some y)/\¬c.V q/\c'.ρ i=c.ρ q)\/w.heap.size<=c'.ρ i:=λi ao h1 nv=>by
   by_cases hi:i<ids.length
   ·have iG:ids[i]?=some ids[i]:=aI hi
    obtain⟨row,g1,g2,g3,g4,g5,g6,g7,_⟩:=jD i _ ao iG h1
    exact .inl ⟨_,fO iG,iG,⟨row,g1⟩,λe=>nv (g7.2 e),g6⟩
   ·exact .inr ((fresh i ao (by omega) h1).2.2.2 nv)
  rcases inv r x hr with⟨i,x',h1,_,h3,h4,h5⟩|⟨h1,h2,h3,h4,h5⟩<;>rcases inv s y hs with⟨j,y',g1,_,g3,g4,g5⟩|⟨g1,g2,g3,g4,g5⟩
  ·have:i=j:=hx.mem.inj i j x' y' h1 g1 (λe=>v1 (h4.2 e)) (λe=>v2 (g4.2 e)) (by rw[<-h3,<-g3];exact he)
   subst this
   rcases h5 with⟨_,q1,_⟩|⟨_,q1,q2⟩<;>rcases g5 with⟨_,p1,_⟩|⟨_,p1,p2⟩
   ·rw[q1]at p1;exact Option.some.inj p1
   ·have:=(List.getElem?_eq_some_iff.1 q1).1;omega
   ·have:=(List.getElem?_eq_some_iff.1 p1).1;omega
   ·omega
  ·exfalso
   have nv:=λe=>v1 (h4.2 e)
   have ns:=λe=>v2 (g4.2 e)
   rw[h3,g3]at he
   rcases Hp i x' h1 nv with⟨q,q1,q2,⟨z,q3⟩,q4,q5⟩|q
   ·exact g2 (by rw[<-hm.inj q s z y q3 g1 q4 ns (by rw[<-q5];exact he)];exact q1)
   ·have:=hm.lt g1 ns;omega
  ·exfalso
   have nv:=λe=>v2 (g4.2 e)
   have ns:=λe=>v1 (h4.2 e)
   rw[h3,g3]at he
   rcases Hp j y' g1 nv with⟨q,q1,q2,⟨z,q3⟩,q4,q5⟩|q
   ·exact h2 (by rw[<-hm.inj q r z x q3 h1 q4 ns (by rw[<-q5];exact he.symm)];exact q1)
   ·have:=hm.lt h1 ns;omega
  ·exact hm.inj r s x y h1 g1 (λe=>v1 (h4.2 e)) (λe=>v2 (g4.2 e)) (by rw[<-h3,<-g3];exact he)
 ·rcases ij with ij|⟨ij,fx⟩
  ·refine⟨Nat.lt_of_lt_of_le (hm.fh b ij).1 BT.size,λr x hr v=>?_⟩
   rcases inv r x hr with⟨i,x',h1,_,h3,h4,h5⟩|⟨h1,h2,h3,h4,h5⟩
   ·have:=(hx.mem.fh b ((hx.cz.I b (.inl ij)).1)).2 i x' h1 (λe=>v (h4.2 e))
    rw[h3];exact this
   ·rw[h3];exact(hm.fh b ij).2 r x h1 (λe=>v (h4.2 e))
  ·refine⟨(hx.mem.fh b ij).1,λr x hr v=>?_⟩
   rcases inv r x hr with⟨i,x',h1,_,h3,h4,h5⟩|⟨h1,h2,h3,h4,h5⟩
   ·rw[h3];exact(hx.mem.fh b ij).2 i x' h1 (λe=>v (h4.2 e))
   ·have:=hm.lt h1 (λe=>v (h4.2 e))
    rw[h3];omega
 ·rcases ij with h|⟨_,h⟩
  ·exact .inl h
  ·exact .inr h
 ·have hi:ids.length+(r-R.length)<aj.length:=by omega
  have sM:c'.R (ids.length+(r-R.length))=some aj[ids.length+(r-R.length)]:=by rw[j6];exact aI hi
  obtain⟨_,_,_,h4⟩:=fresh _ _ (by omega) sM
  simp only[Ctx.behind,if_pos (show R.length<=r/\r<R2.length from⟨h1,h2⟩)]at h3⊢
  exact h4 h3
theorem ZQ(args:List D):CS [] args=[]:=by cases args<;>rfl
theorem Zj4(R:Rows)(args:List D):mw R [] args=[]:=by
 unfold mw;rw[ZQ];rfl
theorem ZM{x:bb}(dy:bj P x){f:FuncId}(hf:x.f=f)(hy:x.f<YB){pos:String}{guard:Option (Nat×Bool)}
 (h:Calls P x.f (args.toList.map a.eval).toArray w λe w'=>∃v,e=.returned v/\K (a.put dst v) w'):(⟨dst,.call ⟨.value (.func f),args,dj⟩,type,pos,after,guard⟩:Oper).nj P a w K Q:=by
 have im:(execOp a.eval (⟨dst,.call ⟨.value (.func f),args,dj⟩,type,pos,after,guard⟩:Oper)).run P w=.ok (.enter f (args.toList.map a.eval).toArray) w:=by
  simp only[execOp,resolve,Act.eval,Deferred.ofValue,Sem.run_bind,Sem.run_pure,Result.andThen_ok,invoke,Array.empty_append,Array.append_empty]
  rw[<-hf,dy.enters hy,<-bV,bW]
 unfold Oper.nj
 rw[im]
 show Calls P f _ w _
 rw[<-hf]
 exact h
theorem xV (hG:jB P G){f:FuncId}{guard:Option (Nat×Bool)}{R:Rows}{K:D->Rows->Prop}
    (lN:oX G f=none) (h:sU G f (args.toList.map ev) R K): ∃val R' x,K val R'/\oJ G f=some x/\Es P ⟨dst, .call ⟨.value (.func f),args,dj⟩,type,pos',after,guard⟩ ev R val R'/\(x.refs=[]->pJ P ⟨dst, .call ⟨.value (.func f),args,dj⟩,type,pos',after,guard⟩ ev R val R'):=by
  unfold sU at h
  split at h
  . rename_i x hx
    have wj:x.gone=none:=by simpa [oX,hx] using lN
    obtain⟨dy,hf⟩:=Gj hG hx
    split at h
    . rename_i az dz has iR
      simp only[dd,Bool.or_eq_true,aE]at h
      obtain⟨⟨⟨Fw,h1,h2⟩,h3,h4⟩,h⟩:=h
      generalize JF:mw R x.refs (args.toList.map ev)=ids at*
      have uJ:=Mw.1 h1
      have jn:=Mw.1 h2
      have kU:=Mx.1 h3
      have oz:=UQ.1 h4
      have main : ∀res aj,ids.length<=aj.length->K (res.sS (bk ids R.length) true) (tQ (bk ids R.length) ids aj R++Bo (bk ids R.length) (aj.drop ids.length))->kr P x.f az dz res aj->(x.flat=true->FF res/\rA aj)->
          ∃val R' y,K val R'/\oJ G f=some y/\Es P ⟨dst, .call ⟨.value (.func f),args,dj⟩,type,pos',after,guard⟩ ev R val R'/\(y.refs=[]->pJ P ⟨dst, .call ⟨.value (.func f),args,dj⟩,type,pos',after,guard⟩ ev R val R'):=by
        intro res aj hle hK hA jy
        let len:=match lJ x.refs (args.toList.map ev) with|[]=>false|_=>true
        have hlen:lJ x.refs (args.toList.map ev)≠[]->len=true:=by
          intro gv
          show(match lJ x.refs (args.toList.map ev) with|[]=>false|_=>true)=true
          split
          . contradiction
          . rfl
        have wO:len=true->x.flat=true:=by
          intro hl
          rcases Fw with h|h
          . exact h.1
          . exfalso
            have hl:(match lJ x.refs (args.toList.map ev) with|[]=>false|_=>true)=true:=hl
            split at h
            . rename_i e;rw[e]at hl;cases hl
            . cases h
        have core: ∀(c:Ctx) (w:World) (a:Act),Mem c w->c.base<=w.heap.size->mh c R->(∀r row,r∈ids->R.getD r none=some row->c.R r=some row)->(∀r,R.length<=r->r<R.length+(aj.length-ids.length)->c.R r=none)->(∀y∈args.toList,Rep c w (ev y) (a.eval y))->
            ∀(K':Act->World->Prop) (Q:Exit->Act->World->Prop),(∀v w' c',lM (c.pass w ids dz len) w c' w'->(∀i,c'.R i=aj[i]?)->Rep (c.behind w c' ids R.length (tQ (bk ids R.length) ids aj R++Bo (bk ids R.length) (aj.drop ids.length))) w' (res.sS (bk ids R.length) true) v->K' (a.put dst v) w')->
            (⟨dst, .call ⟨.value (.func f),args,dj⟩,type,pos',after,guard⟩:Oper).nj P a w K' Q:=by
          intro c w a hm hb oW nS ez ei K' Q pW
          have hn:=UW (len:=len) (w:=w) nS iR
          have fv:=My (len:=len) (ρ:=a.eval) hm oW hn has hlen oz uJ ei
          have mm:=hA (c.pass w ids dz len) w _ (ZK hm nS kU jn iR) rfl (λr=>rfl) fv
          refine ZM dy hf (dy.real wj) (mm.mono λe w' sN=> ?_)
          obtain⟨v,c',he,nF,j6,kJ⟩:=sN
          obtain⟨g1,g2,_⟩:=Z6d hm hb nS ez kU iR hle nF j6 (λe=>(jy (wO e)).2) rfl
          exact⟨v,he,pW v w' c' nF j6 (ZL g1 g2 (λ_=>trivial) (λe=>(jy (wO e)).1) kJ)⟩
        have je: ∀(c:Ctx) (w:World) (a:Act),(∀y∈(⟨dst, .call ⟨.value (.func f),args,dj⟩,type,pos',after,guard⟩:Oper).op.operands,Rep c w (ev y) (a.eval y))-> ∀y∈args.toList,Rep c w (ev y) (a.eval y):=λc w a ei y hy=>ei y (by simp [Op.operands,Call.operands];exact .inr (by simpa using hy))
        refine⟨_,_,x,hK,hx,λc w a hm hb hR ei K' Q pW=> ?_,λhrefs=> ?_⟩
        . have oW:mh c R:=λr row ao g1 g2=>by rw[hR,g2]at g1;exact(Option.some.inj g1).symm
          have nS: ∀r row,r∈ids->R.getD r none=some row->c.R r=some row:=λr row _ e=>by rw[hR];exact e
          have ez: ∀r,R.length<=r->r<R.length+(aj.length-ids.length)->c.R r=none:=λr e _=>by rw[hR,aV,aJ e];rfl
          refine core c w a hm hb oW nS ez (je c w a ei) K' Q λv w' c' nF j6 kJ=> ?_
          obtain⟨g1,g2,g3,g4,g5,g6,g7⟩:=Z6d hm hb nS ez kU iR hle nF j6 (λe=>(jy (wO e)).2) rfl
          have wc:(tQ (bk ids R.length) ids aj R).length=R.length:=(Vg kU hle (λr hr=>by
            obtain⟨row,q1,_⟩:=(Fm iR).2 _ r (Bl hr)
            by_cases hl:r<R.length
            . exact hl
            . rw[aV,aJ (by omega)]at q1;cases q1)).1
          have iw:=Vg (f:=bk ids R.length) kU hle (λr hr=>by
            obtain⟨row,q1,_⟩:=(Fm iR).2 _ r (Bl hr)
            by_cases hl:r<R.length
            . exact hl
            . rw[aV,aJ (by omega)]at q1;cases q1)
          refine pW v w' _ ⟨g3,g4,g5.mono λb _ ⟨r,y,k1,k2,_,k4⟩=>⟨r,y,k1,k2,k4⟩,g6,λr ao hr hv=> ?_⟩ (λr=> ?_) kJ
          . by_cases hc:R.length<=r/\r<(tQ (bk ids R.length) ids aj R++Bo (bk ids R.length) (aj.drop ids.length)).length
            . exact .inr (g7 r hc.1 hc.2 hv)
            . left
              simp only[Ctx.behind,if_neg hc]at hv⊢
              refine⟨?_,hv,trivial⟩
              simp only[Ctx.behind]at hr
              split at hr
              . rename_i Hq
                rcases Hq with Hq|Hq
                . obtain⟨row,q1,_⟩:=(Fm iR).2 _ r (Bl Hq)
                  exact⟨row,nS r row Hq q1⟩
                . contradiction
              . exact⟨_,hr⟩
          . simp only[Ctx.behind]
            split
            . rfl
            . rename_i Hq
              have h1:r∉ids:=λe=>Hq (.inl e)
              by_cases bd:r<R.length
              . rw[aV,bI (by omega),<-aV,iw.2.2 r h1,hR]
              . rw[hR,aV,aJ (by omega),aV,aJ (by
                  by_cases h2:r<(tQ (bk ids R.length) ids aj R++Bo (bk ids R.length) (aj.drop ids.length)).length
                  . exact(Hq (.inr ⟨by omega,h2⟩)).elim
                  . omega)]
        . have Ra:ids=[]:=by rw[<-JF,hrefs];exact Zj4 R _
          subst Ra
          have uN:tQ (bk [] R.length) [] aj R=R:=by cases aj<;>rfl
          rw[uN]
          simp only[dE,fV]at*
          refine⟨⟨_,rfl⟩,λc w a hm hb oW ez ei K' Q pW=> ?_⟩
          have nS: ∀r row,r∈([]:List Nat)->R.getD r none=some row->c.R r=some row:=λr row e=>by cases e
          have Hr: ∀r,R.length<=r->r<R.length+(aj.length-0)->c.R r=none:=λr e1 e2=>ez r e1 (by simp [Bo];omega)
          refine core c w a hm hb oW nS Hr (je c w a ei) K' Q λv w' c' nF j6 kJ=> ?_
          obtain⟨g1,g2,g3,g4,g5,g6,g7⟩:=Z6d hm hb nS Hr kU iR hle nF j6 (λe=>(jy (wO e)).2) rfl
          rw[uN]at g3 g4 g6 g7 kJ
          simp only[dE,fV]at g3 g4 g6 g7 kJ
          refine pW v w' _ ⟨g3,g4,g5.mono (λb _ ⟨r,y,k1,k2,k3,k4⟩=>(by cases k3)),g6,λr=> ?_,λr hr=> ?_,λr k1 k2=>g7 r k1 k2⟩ kJ
          . simp [Ctx.behind]
          . simp only[Ctx.behind]
            rw[if_neg (by omega),if_neg (by omega)]
            exact⟨rfl,Iff.rfl⟩
      split at h
      . rename_i res aj hm
        simp only[Eg,dd,D.c7,nk]at h
        obtain⟨h5,h6⟩:=dy.ok wj _ _ _ _ hm
        exact main res aj (lE h.1) h.2 h5 h6
      . rename_i p res aj hm
        simp only[Eg,dd,D.c7,nk]at h
        obtain⟨h5,h6⟩:=dy.when wj _ _ _ _ _ hm h.1
        exact main res aj (lE h.2.1) h.2.2 h5 h6
      . rename_i α v res aj hm
        have h:=h v rfl
        simp only[Eg,dd,D.c7,nk]at h
        obtain⟨h5,h6⟩:=dy.abs wj _ _ _ _ _ _ hm
        exact main (res v) (aj v) (lE h.1) h.2 h5 h6
      . rename_i p α v res aj hm
        obtain⟨hp,h⟩:=h
        have h:=h v rfl
        simp only[Eg,dd,D.c7,nk]at h
        obtain⟨h5,h6⟩:=dy.lB wj _ _ _ _ _ _ _ hm hp
        exact main (res v) (aj v) (lE h.1) h.2 h5 h6
      . exact h.elim
    . exact h.elim
  . exact h.elim
theorem Ze3{f:Nat->Nat}:∀{ds:List D},Vh ds=true->D.mz f true ds=ds
 |[],_=>rfl
 |d ::l,h=>by
  simp only[Vh]at h
  split at h
  ·rename_i hd
   simp only[D.mz,Ze3 h]
   cases d<;>first|(simp[Rb]at hd;done)|simp[D.my]
  ·cases h
theorem Zk6{f:Nat->Nat}(h:sV d=true):d.jg f true=d:=by
 cases d with
 |agg cs=>show D.agg (D.mz f true cs)=_;rw[Ze3 h]
 |_=>first|(simp[sV,Rb]at h;done)|simp[D.jg,D.my]
theorem Zdg{f:Nat->Nat}:∀{ds:List D},Vi ds=true->D.AF f true ds=ds
 |[],_=>rfl
 |d ::l,h=>by
  simp only[Vi]at h
  split at h
  ·rename_i hd
   simp only[D.AF,Zdg h,Zk6 hd]
  ·cases h
theorem Zur{f:Nat->Nat}(h:uO d=true):d.sS f true=d:=by
 cases d with
 |dw ds=>show D.dw (D.AF f true ds)=_;rw[Zdg h]
 |agg cs=>exact Zk6 (d:=.agg cs) h
 |_=>first|(simp[uO,sV,Rb]at h;done)|simp[D.sS,D.jg,D.my]
theorem ZP{R:Rows}(f g:Nat->Nat):∀{ds:List D},sO R f [] ds=sO R g [] ds
 |[]=>rfl
 |d::l=>by simp only[sO,ZP f g (ds:=l)]
theorem zV{G:List bb}{f:FuncId}{args:List D}{R:Rows}{K:D->Rows->Prop}(h:KD G f args R K):sU G f args R K:=by
 unfold KD at h
 split at h
 ·rename_i x hx
  split at h
  ·rename_i hrefs
   split at h
   ·rename_i az has
    simp only[dd]at h
    have hv:∀{res:D} {aj:List Row},MG R res aj K->Eg R [] res aj K:=by
     intro res aj h
     have uN:tQ (bk [] R.length) [] aj R=R:=by cases aj<;>rfl
     simp only[Eg,dd,dE,fV,uN]
     refine⟨by simp,?_⟩
     unfold MG at h
     split at h
     ·simp only[dd,D.c7]at h
      rw[Zur h.1]
      simp only[D.c7,nk,Bo,List.map_nil,List.append_nil]
      exact h.2
     ·exact h
    unfold sU
    simp only[hx,hrefs,Zj4]
    rw[ZP _ (λr=>r),has]
    simp only[Bk,dd,ZQ]
    refine⟨?_,?_⟩
    ·have:∀l:List Nat,pr l []=true:=λl=>by
      rw[UQ];intro r _ hr;cases hr
     simp only[py,CJ,CR,this,Bool.and_true]
     have h1:=h.1
     revert h1
     cases lJ [] args<;>simp[CV]
    ·revert h
     cases x.m az []with
     |no=>exactλh=>h.2
     |ok res aj=>exactλh=>hv h.2
     |«when»p res aj=>exactλh=>⟨h.2.1,hv h.2.2⟩
     |abs α v res aj=>exactλh X hX=>hv (h.2 X hX)
     |lB p α v res aj=>exactλh=>⟨h.2.1,λX hX=>hv (h.2.2 X hX)⟩
   ·exact h.elim
  ·exact h
 ·exact h.elim
theorem WJ(hG:jB P G){f:FuncId}{guard:Option (Nat×Bool)}{R:Rows}{K:D->Rows->Prop}
 (lN:oX G f=none) (h:KD G f (args.toList.map ev) R K):∃val R' x,K val R'/\oJ G f=some x/\Es P ⟨dst,.call ⟨.value (.func f),args,dj⟩,type,pos',after,guard⟩ ev R val R'/\(x.refs=[]->pJ P ⟨dst,.call ⟨.value (.func f),args,dj⟩,type,pos',after,guard⟩ ev R val R'):=
 xV hG lN (zV h)
