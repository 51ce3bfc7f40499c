import Derived.Test.YtaemmjbkndlkeaaGreatMigrateTellsFp
open List renaming getD->aV,getElem?_eq_none->aJ,getElem?_append_left->bI,getElem?_take->aF,getElem?_drop->fZ,getElem?_eq_getElem->aI,getElem?_toArray->bH,map_cons->fX,map_toArray->bV,mem_cons->cQ,mem_map->gJ,mem_of_getElem?->gC,length_nil->dE,drop_zero->gK
open Nat renaming le_refl->aX,zero_add->bG,add_assoc->gH
open Option renaming getD_some->aR
open Bool renaming false_eq_true->aA
open Array renaming toArray_toList->bW,extract_eq_self_of_le->gI
set_option linter.all false
namespace Go.GD
open Go
variable {G:List bd}{I I':ab}{K:Act->World->Prop}{P:Program}{Q:Exit->Act->World->Prop}{a:Act}{after:Array Edge}{args:Array Operand}{d d' val:D}{dst:Option Tmp}{ev:Operand->D}{i:Nat}{pos':String}{row:Row}{type:TypeId}{dh:Array TypeId}{v:Value}{vs:List Value}{w w':World}
structure Ls(c:Ctx)(w:World)(R R':Rows)(c':Ctx)(w':World):Prop where
 mem:Mem c' w'
 cz:ju c w c' w'
 fr:Fr (λ_=>False) w w'
 fk:∀b,c'.I b->c.I b\/w.heap.size<=b
 rows:∀r,c'.R r=if R.length<=r/\r<R'.length then R'.getD r none else c.R r
 jW:∀r,r<R.length\/R'.length<=r->c'.ρ r=c.ρ r/\(c'.V r↔c.V r)
 new:∀r,R.length<=r->r<R'.length->¬c'.V r->w.heap.size<=c'.ρ r
structure mn(c:Ctx)(w:World)(c':Ctx)(w':World):Prop where
 mem:Mem c' w'
 cz:ju c w c' w'
 fr:Fr (λb=>∃r x,c.R r=some x/\¬c.V r/\c.ρ r=b) w w'
 fk:∀b,c'.I b->c.I b\/w.heap.size<=b
 oO:∀r aq,c'.R r=some aq->¬c'.V r->((∃row,c.R r=some row)/\¬c.V r/\c'.ρ r=c.ρ r)\/w.heap.size<=c'.ρ r
def Su(P:Program)(o:Oper)(a:Act)(next:Act->World->Prop):Result Next->Prop
 |.ok (.value v) w'=>next (a.put o.dst v) w'
 |.ok .skip w'=>next (a.put o.dst undef) w'
 |.ok (.enter f args) w'=>Calls P f args w' λe Il=>∃v,e=.returned v/\next (a.put o.dst v) Il
 |.ok (.round l f tmps assign body) w'=>RoundIn Fence.wide 0 P l f tmps assign body w' λe Il=>∃v,e=.returned v/\next (a.put o.dst v) Il
 |_=>False
def _root_.Go.Oper.nM(P:Program)(o:Oper)(a:Act)(w:World)(next:Act->World->Prop)(_:Exit->Act->World->Prop):Prop:=Su P o a next ((execOp a.eval o).run P w)
theorem Hg{o:Oper}{u:Value}(h:(execOp a.eval o).run P w=.ok (.value u) w')(hK:K (a.put o.dst u) w'):o.nM P a w K Q:=by
 unfold Oper.nM;rw[h];exact hK
theorem qW{o:Oper}(h:(execOp a.eval o).run P w=.ok .skip w')(hK:K (a.put o.dst undef) w'):o.nM P a w K Q:=by
 unfold Oper.nM;rw[h];exact hK
theorem YA{P:Program}{o:Oper}{a:Act}{w:World}{K K':Act->World->Prop}{Q Q':Exit->Act->World->Prop}(h:∀a w,K a w->K' a w)(hh:o.nM P a w K Q):o.nM P a w K' Q':=by
 unfold Oper.nM at hh⊢
 revert hh
 generalize(execOp a.eval o).run P w=r
 intro hh
 cases r with
 |halt _ _=>exact hh.elim
 |ok n w'=>
  cases n with
  |value v=>exact h _ _ hh
  |skip=>exact h _ _ hh
  |enter f args=>exact Calls.mono hh λe w' ⟨v,he,hk⟩=>⟨v,he,h _ _ hk⟩
  |round l f tmps assign body=>exact RoundIn.mono hh λe w' ⟨v,he,hk⟩=>⟨v,he,h _ _ hk⟩
  |_=>exact hh.elim
def rC(P:Program)(o:Oper)(ev:Operand->D)(R:Rows)(val:D)(R':Rows):Prop:=
 (∃news,R'=R++news)/\∀(c:Ctx) (w:World) (a:Act),Mem c w->c.base<=w.heap.size->mN c R->(∀r,R.length<=r->r<R'.length->c.R r=none)->(∀x∈o.op.operands,Rep c w (ev x) (a.eval x))->
  ∀K Q,(∀v w' c',Ls c w R R' c' w'->Rep c' w' val v->K (a.put o.dst v) w')->o.nM P a w K Q
def Fu(P:Program)(o:Oper)(ev:Operand->D)(R:Rows)(val:D)(R':Rows):Prop:=
 ∀ (c:Ctx) (w:World) (a:Act),Mem c w->c.base<=w.heap.size->(∀r,c.R r=R.getD r none)->(∀x∈o.op.operands,Rep c w (ev x) (a.eval x))->
  ∀K Q,(∀v w' c',mn c w c' w'->(∀r,c'.R r=R'.getD r none)->Rep c' w' val v->K (a.put o.dst v) w')->o.nM P a w K Q
theorem rC.toW{o:Oper}{R:Rows}{R':Rows}(h:rC P o ev R val R'):Fu P o ev R val R':=by
 obtain⟨⟨news,hn⟩,h⟩:=h
 intro c w a hm hb hR ez K Q hK
 refine h c w a hm hb (λr row aq h1 h2=>by rw[hR,h2]at h1;exact(Option.some.inj h1).symm) (λr h1 _=>by rw[hR];simp[aV,aJ h1]) ez K Q λv w' c' hs hr=>?_
 refine hK v w' c' ⟨hs.mem,hs.cz,hs.fr.mono (λb _ hf=>hf.elim),hs.fk,λr aq rz hv=>?_⟩ (λr=>?_) hr
 ·by_cases h1:R.length<=r/\r<R'.length
  ·exact .inr (hs.new r h1.1 h1.2 hv)
  ·rw[hs.rows,if_neg h1]at rz
   obtain⟨h2,h3⟩:=hs.jW r (by omega)
   exact .inl ⟨⟨_,rz⟩,λe=>hv (h3.2 e),h2⟩
 ·rw [hs.rows,hR]
  split
  ·rfl
  ·rename_i h1
   subst hn
   by_cases h2:r<R.length
   ·simp[aV,bI h2]
   ·have h3:(R++news).length<=r:=by omega
    simp[aV,aJ h3,aJ (show R.length<=r by omega)]
theorem nk{o:Oper}{R:Rows}(h:∀(c:Ctx) (w:World) (a:Act),Mem c w->mN c R->(∀x∈o.op.operands,Rep c w (ev x) (a.eval x))->∃u,(execOp a.eval o).run P w=.ok (.value u) w/\Rep c w val u):rC P o ev R val R:=by
 refine⟨⟨[],by simp⟩,λc w a hm hb hA _ ez K Q hK=>?_⟩
 obtain⟨u,hu,hr⟩:=h c w a hm hA ez
 exact Hg hu (hK u w c ⟨hm,ju.refl c w,Fr.refl _ w,λb hb=>.inl hb,λr=>by rw[if_neg (by omega)],λ_ _=>⟨rfl,Iff.rfl⟩,λr h1 h2=>by omega⟩ hr)
theorem Sv{o:Oper}{R:Rows}(h:∀(c:Ctx) (w:World) (a:Act),Mem c w->mN c R->(∀x∈o.op.operands,Rep c w (ev x) (a.eval x))->
 ∃x:Sem Value,execOp a.eval o=(do pure (.value (<-x)))/\Sw P x w c R.length row val):rC P o ev R val (R++[some row]):=by
 refine⟨⟨[some row],rfl⟩,λc w a hm hb hA fe ez K Q hK=>?_⟩
 obtain⟨x,hx,u,arr,hu,hi,hr⟩:=h c w a hm hA ez
 have hk:c.R R.length=none:=fe R.length (aX _) (by simp)
 have il:(execOp a.eval o).run P w=.ok (.value u) (w.alloc (.cells arr row.ty)):=by
  rw[hx,Sem.run_bind,hu];rfl
 refine Hg il (hK u _ (c.add R.length row w.heap.size) ⟨hm.alloc hk row arr hi.1 hi.2,ju.alloc hm hk row _,Fr.alloc _ w _,λb hb=>.inl hb,λr=>?_,λr hr=>?_,λr h1 h2 _=>?_⟩ (hr hk hm))
 ·by_cases e:r=R.length
  ·subst e
   simp[Ctx.add,aV]
  ·have:¬(R.length<=r/\r<(R++[some row]).length):=by simp;omega
   rw[if_neg this]
   simp[Ctx.add,e]
 ·have:r≠R.length:=by simp at hr;omega
  simp[Ctx.add,this]
 ·have:r=R.length:=by simp at h2;omega
  simp[Ctx.add,this]
def Hf:Op->Bool|.store _ _ _=>true|_=>false
theorem Zzq{c:Ctx}{cs:List D}(h:jG c w cs vs)(o n:Nat):jG c w ((cs.drop o).take n) ((vs.drop o).take n):=by
 rw[Fa]at h⊢
 obtain⟨h1,h2⟩:=h
 refine⟨by simp[h1],λj v hv=>?_⟩
 simp only[aF,fZ]at hv
 split at hv
 ·rename_i hj
  have:=h2 (o+j) v hv
  simp only[aV,aF,fZ,hj,if_true]at this⊢
  exact this
 ·cases hv
theorem qae{c:Ctx}: ∀{dh:List rT} {az:List D} {vs:List Value},jG c w az vs->fits dh az=true->rP vs.toArray 0 az
  | dh,az,vs,h,hf=>by
    intro j d hj
    have bc:=(List.getElem?_eq_some_iff.1 hj).1
    have hl:=h.length
    have hv:vs[j]? =some vs[j]:=aI (by omega)
    have hr:=(Fa.1 h).2 j _ hv
    simp only[aV,hj,aR]at hr
    have hs : ∀{dh:List rT} {az:List D} {j:Nat},fits dh az=true->az[j]? =some d->(∃k n,d= .int k n)\/(∃b,d= .bool b)\/ ∃s,d= .str s:=by
      intro dh
      induction dh with
      |nil=>intro az j hf hj;cases az<;>simp [fits]at hf;simp at hj
      | cons t ts ih=>
        intro az j hf hj
        cases az with
        |nil=>cases t<;>simp [fits]at hf
        | cons e es=>
          cases t<;>simp only[fits,aE,aA]at hf
          all_goals
            cases j with
            |succ j=>exact ih hf.2 (by simpa using hj)
            | zero=>
              simp at hj
              subst hj
              cases e<;>simp [D.isInt,D.isBool,D.isStr]at hf⊢
    simp only[bG,bH,hv]
    rcases hs hf hj with⟨k,n,rfl⟩|⟨b,rfl⟩|⟨s,rfl⟩<;>(simp only[dc]at hr;rw[hr];rfl)
theorem Zau{c:Ctx}{w:World}:∀{ds:List D} {vs:List Value},kJ c w ds vs->∀i,i<ds.length->∃v,vs[i]?=some v/\VRep c w (ds.getD i .dead) v
 |[],[],_,i,h=>by simp at h
 |d::ds,v::vs,h,0,_=>⟨v,rfl,h.1⟩
 |d::ds,v::vs,h,i+1,hi=>by
  obtain⟨u,hu,hr⟩:=Zau h.2 i (by simpa using hi)
  exact⟨u,by simpa using hu,by simpa using hr⟩
 |[],_::_,h,_,_=>h.elim
 |_::_,[],h,_,_=>h.elim
theorem qaA{x:iS}(h:DM d=some x):x.d=d:=by
 have go:∀{cs:List iS} {ps:List (Nat×Nat×Nat)},Sx cs=some ps->ps.map Ja=cs:=by
  intro cs
  induction cs with
  |nil=>intro ps h;simp[Sx]at h;subst h;rfl
  |cons y l ih=>
   intro ps h
   simp only[Sx]at h
   split at h
   ·rename_i p qs h1 h2
    cases h
    simp only[fX,ih h2]
    cases y<;>simp[Iq]at h1
    subst h1;rfl
   ·cases h
 cases d<;>simp only[DM]at h<;>first|(cases h;done)|skip
 case gv f cs=>
  split at h
  ·rename_i ps hp;cases h;simp only[iS.d,go hp]
  ·cases h
 all_goals(cases h;rfl)
theorem YO{c:Ctx}{w:World}{ev:Operand->D}{ρ:Operand->Value}:∀{xs:List Operand} {cs:List iS},LI (xs.map ev)=some cs->(∀x∈xs,Rep c w (ev x) (ρ x))->pr c w cs (xs.map ρ)
 |[],cs,h,_=>by simp[LI]at h;subst h;trivial
 |x ::xs,cs,h,hr=>by
  simp only[fX,LI]at h
  split at h
  ·rename_i y ys h1 h2
   cases h
   refine⟨?_,YO h2 λz hz=>hr z (by simp[hz])⟩
   have:=hr x (by simp)
   rw[<-qaA h1]at this
   rw[Yv]
   cases y<;>exact this
  ·cases h
theorem OD{T:iz}(hT:jC P T)(o:Oper)(ev:Operand->D)(R:Rows)(K:D->Rows->Prop)(h:gx T o.op ev R K):
 ∃val R',K val R'/\(if Hf o.op then Fu P o ev R val R' else rC P o ev R val R'):=by
 obtain⟨dst,op,type,pos,after,guard⟩:=o
 simp only at h
 cases op<;>(try simp only[gx]at h)<;>try(exact h.elim)
 case makeFunc fn first captured=>
  cases fn<;>simp only at h<;>try(exact h.elim)
  rename_i f
  simp only[de,aE]at h
  obtain⟨⟨h0,hy⟩,h⟩:=h
  split at h
  ·rename_i cs hc
   refine⟨_,_,h,nk λc w a hm hA ez=>?_⟩
   have hf:first= #[]:=Array.eq_empty_of_size_eq_zero (bE h0)
   subst hf
   refine⟨.func (.func f) #[] (captured.map a.eval),?_,captured.toList.map a.eval,?_,YO hc λx hx=>ez x (by simp[Op.operands];simpa using hx)⟩
   ·simp only[execOp,Instr.makeFunc,Sem.run_bind,Sem.run_pure,Array.map_empty];rfl
   ·exact .inl ⟨lE hy,by rw[<-bV,bW]⟩
  ·exact h.elim
 case move x=>
  rw[D.c7]at h
  exact⟨_,_,h,nk λc w a hm hA ez=>⟨_,rfl,ez x (by simp[Op.operands])⟩⟩
 case assign x=>
  rw[D.c7]at h
  exact⟨_,_,h,nk λc w a hm hA ez=>⟨_,rfl,ez x (by simp[Op.operands])⟩⟩
 case alloc t=>
  split at h
  ·rename_i ht
   simp only[de,aE,LH]at h
   obtain⟨⟨h0,hl⟩,h⟩:=h
   exact⟨_,_,h,Sv λc w a hm hA ez=>⟨_,rfl,Zwa hT ht (lE h0) (bE hl) R.length c w⟩⟩
  ·exact h.elim
 case box t x=>
  split at h
  ·rename_i ht
   simp only[de,aE,LH,D.ff]at h
   obtain⟨⟨⟨h0,hv⟩,hl⟩,h⟩:=h
   exact⟨_,_,h,Sv λc w a hm hA ez=>⟨_,rfl,xaR (lE h0) hv (bE hl) R.length c w (ez x (by simp[Op.operands]))⟩⟩
  ·exact h.elim
 case build t parts=>
  obtain⟨val,hK,hr⟩:=qX hT h
  refine⟨_,_,hK,nk λc w a hm hA ez=>?_⟩
  obtain⟨u,hu,hx⟩:=hr c w a.eval (λp hp=>ez p.2 (by simp[Op.operands];exact⟨p.1,by simpa using hp⟩))
  refine⟨u,?_,hx⟩
  simp only[execOp]
  rw[Sem.run_bind,show parts.map (λx=>(x.1,a.eval x.2))=(parts.toList.map λp=>(p.1,a.eval p.2)).toArray from by rw[<-bV,bW],hu]
  rfl
 case buildSlice t len parts=>
  obtain⟨h1,h2⟩:=Zb4.1 h
  cases hl:WU t len
  rotate_left
  ·obtain⟨row,val,hK,hr⟩:=Zrv hT (h1 hl)
   refine⟨_,_,hK,Sv λc w a hm hA ez=>⟨_,?_,hr c w a.eval (λp hp=>ez p.2 (by simp[Op.operands];exact⟨p.1,by simpa using hp⟩))⟩⟩
   simp only[execOp]
   rw[show parts.map (λx=>(x.1,a.eval x.2))=(parts.toList.map λp=>(p.1,a.eval p.2)).toArray from by rw[<-bV,bW]]
  have h:=h2 hl
  obtain⟨val,hK,hr⟩:=Zz4 hT h
  refine⟨_,_,hK,⟨[],by simp⟩,λc w a hm hb hA _ ez K Q hK=>?_⟩
  obtain⟨u,arr,ty,hu,hx⟩:=hr c w a.eval hb (λp hp=>ez p.2 (by simp[Op.operands];exact⟨p.1,by simpa using hp⟩))
  have il:(execOp a.eval (⟨dst,.buildSlice t len parts,type,pos,after,guard⟩:Oper)).run P w=.ok (.value u) (w.alloc (.cells arr ty)):=by
   simp only[execOp]
   rw[Sem.run_bind,show parts.map (λx=>(x.1,a.eval x.2))=(parts.toList.map λp=>(p.1,a.eval p.2)).toArray from by rw[<-bV,bW],hu]
   rfl
  exact Hg il (hK u _ (c.fk w.heap.size) ⟨xaz hm _,WT hm _,Fr.alloc _ w _,λb hb=>hb.elim .inl (λe=>.inr (by omega)),λr=>by rw[if_neg (by omega)];rfl,λ_ _=>⟨rfl,Iff.rfl⟩,λr h1 h2=>by omega⟩ (hx hm))
 case load t x=>
  obtain⟨val,hK,hr⟩:=Zq2 hT h
  refine⟨_,_,hK,nk λc w a hm hA ez=>?_⟩
  obtain⟨u,hu,hx⟩:=hr c w _ hm hA (ez x (by simp[Op.operands]))
  exact⟨u,by simp only[execOp];rw[Sem.run_bind,hu];rfl,hx⟩
 case store t x y=>
  obtain⟨R',hK,hr⟩:=Zyv hT h
  refine⟨_,_,hK,?_⟩
  simp only[Hf,if_true]
  intro c w a hm hb hR ez K Q hK
  obtain⟨r,aq,arr,w',il,hw',⟨row,c6⟩,hV,hg,mU,ku⟩:=hr c w _ _ hm hR (ez x (by simp[Op.operands])) (ez y (by simp[Op.operands]))
  refine qW (w':=w') ?_ (hK undef w' _ ⟨mU,hg,?_,λb hb=>.inl hb,λs tD hs hv=>?_⟩ ku trivial)
  ·simp only[execOp];rw[Sem.run_bind,il];rfl
  rotate_left
  ·by_cases e:s=r
   ·exact .inl ⟨⟨row,by rw[e];exact c6⟩,hv,rfl⟩
   ·exact .inl ⟨⟨tD,by simpa[Ctx.kd,e]using hs⟩,hv,rfl⟩
  ·rw[hw']
   exact(Us w _ arr).mono λb _ e=>⟨r,row,c6,hV,e.symm⟩
 case nilCheck x=>
  have go:∀d,ev x=d->(∃a b c,d=.ptr a b c)\/(∃a b c e,d=.iu a b c e)->K d R->∃val R',K val R'/\rC P ⟨dst,.nilCheck x,type,pos,after,guard⟩ ev R val R':=by
   intro d hd Sy hK
   refine⟨_,_,hK,nk λc w a hm hA ez=>?_⟩
   have hx:=ez x (by simp[Op.operands])
   rw[hd]at hx
   have hp:∃q,a.eval x=.pointer (some q):=by
    rcases Sy with⟨r,i,off,rfl⟩|⟨sz,es,i,off,rfl⟩
    ·obtain⟨_,_,_,_,hv⟩:=hx;exact⟨_,hv⟩
    ·obtain⟨_,_,_,_,_,hv,_⟩:=hx;exact⟨_,hv⟩
   obtain⟨q,hq⟩:=hp
   refine⟨a.eval x,?_,hx⟩
   simp only[execOp,hq,Sem.run_pure]
  split at h
  ·rename_i hd;exact go _ hd (.inl ⟨_,_,_,rfl⟩) h
  ·rename_i hd;exact go _ hd (.inr ⟨_,_,_,_,rfl⟩) h
  ·exact h.elim
 case binOp op t x y ty=>
  have fin:∀(val:D),(∀c w u v,Rep c w (ev x) u->Rep c w (ev y) v->∃z,(do eqGuard op t x y u v;binOp op t u v).run P w=.ok z w/\Rep c w val z)->rC P ⟨dst,.binOp op t x y ty,type,pos,after,guard⟩ ev R val R:=λval hv=>
   nk λc w a hm hA ez=>by
    obtain⟨z,hz,hr⟩:=hv c w _ _ (ez x (by simp[Op.operands])) (ez y (by simp[Op.operands]))
    refine⟨z,?_,hr⟩
    simp only[execOp]
    rw[Sem.run_bind,hz];rfl
  unfold tI at h
  split at h
  ·rename_i k a k' b hx hy
   split at h
   ·simp only[de,decide_eq_true_eq]at h
    refine⟨_,_,h.2,fin _ λc w u v hu hv=>?_⟩
    rw[hx]at hu;rw[hy]at hv
    rw[Rep.int.1 hu,Rep.int.1 hv]
    exact⟨_,by rw[Sem.run_bind,Qzn];exact(Zn5 h.1 w).1,rfl⟩
   ·simp only[de,decide_eq_true_eq]at h
    refine⟨_,_,h.2,fin _ λc w u v hu hv=>?_⟩
    rw[hx]at hu;rw[hy]at hv
    rw[Rep.int.1 hu,Rep.int.1 hv]
    exact⟨_,by rw[Sem.run_bind,Qzn];exact(Zn5 h.1 w).2,rfl⟩
   ·rename_i h1 h2
    simp only[de,decide_eq_true_eq]at h
    obtain⟨rfl,h⟩:=h
    obtain⟨d,hK,hr⟩:=zaA (P:=P) (t:=t) ⟨λe=>h1 e,λe=>h2 e⟩ h
    refine⟨_,_,hK,fin _ λc w u v hu hv=>?_⟩
    rw[hx]at hu;rw[hy]at hv
    rw[Rep.int.1 hu,Rep.int.1 hv]
    obtain⟨z,hz,hz'⟩:=hr w
    exact⟨z,by rw[Sem.run_bind,Qzn];exact hz,hz' c⟩
  ·rename_i a b hx hy
   obtain⟨d,hK,hr⟩:=xaA (P:=P) (t:=t) (op:=op) (a:=a) (b:=b) (K:=λd=>K d R) h
   refine⟨_,_,hK,fin _ λc w u v hu hv=>?_⟩
   rw[hx]at hu;rw[hy]at hv
   rw[Rep.str.1 hu,Rep.str.1 hv]
   obtain⟨z,hz,hz'⟩:=hr w
   exact⟨z,by rw[Sem.run_bind,Zsc];exact hz,hz' c⟩
  ·rename_i a b hx hy
   split at h
   ·rename_i ht
    have hd:=nj hT ht
    simp only at hd
    split at h
    ·refine⟨_,_,h,fin _ λc w u v hu hv=>?_⟩
     rw[hx]at hu;rw[hy]at hv
     rw[Rep.bool.1 hu,Rep.bool.1 hv]
     refine⟨_,?_,rfl⟩
     rw[Sem.run_bind,Z6b]
     simp only[binOp]
     simp[Op.equal,Op.maxDepth,run_equalIn_bool' w 9999 t a b hd]
    ·refine⟨_,_,h,fin _ λc w u v hu hv=>?_⟩
     rw[hx]at hu;rw[hy]at hv
     rw[Rep.bool.1 hu,Rep.bool.1 hv]
     refine⟨_,?_,rfl⟩
     rw[Sem.run_bind,Z6b]
     simp only[binOp]
     simp[Op.equal,Op.maxDepth,run_equalIn_bool' w 9999 t a b hd]
    ·exact h.elim
   ·exact h.elim
  ·rename_i a b hx hy
   split at h
   ·rename_i ti ht
    simp only[de,aE]at h
    obtain⟨⟨⟨⟨⟨DL,h0⟩,he⟩,fa⟩,fb⟩,h⟩:=h
    obtain⟨i0,rp,Cy,_,Lx,AS,_,heq,hc,d0,Gt⟩:=Ez (hT.get ht)
    have h0:0<ti.size:=lE h0
    rw[heq]at he
    simp only[aE,Bool.not_eq_true']at he
    rw[hc]at fa fb
    have kP:P.cellsOf t=(mJ P 8 t).length:=by rw[<-hc,Lx];simp[Program.cellsOf,rp,Cy]
    have wa:0<P.cellsOf t:=by simp[Program.cellsOf,rp,Cy,h0]
    have Sz:∀c w u v,Rep c w (ev x) u->Rep c w (ev y) v->∃us vs:Array Value,u=.agg us/\v=.agg vs/\(Op.equalIn 10000 t (.agg us) (.agg vs)).run P w=.ok (eqs a b) w:=by
     intro c w u v hu hv
     rw[hx]at hu;rw[hy]at hv
     obtain⟨us,hu,ru⟩:=hu
     obtain⟨vs,hv,rv⟩:=hv
     refine⟨us.toArray,vs.toArray,hu,hv,?_⟩
     have KE:=Zsa (P:=P) 8 t 10000 (by omega) he.2 kP wa us.toArray vs.toArray 0 a b w fa fb (qae ru fa) (qae rv fb)
     have hlu:=ru.length;have hlv:=rv.length
     have hla:=tJ fa;have hlb:=tJ fb
     have u6:Sr d0=true:=by rw[<-NG Gt,<-AS];exact DL
     simp only[o7,Sem.run_bind,WV Gt u6 wa,Result.andThen_ok]at KE
     rw[show us.toArray.extract 0 (0+P.cellsOf t)=us.toArray from by apply gI;simp;omega,show vs.toArray.extract 0 (0+P.cellsOf t)=vs.toArray from by apply gI;simp;omega]at KE
     exact KE
    split at h
    ·refine⟨_,_,h,fin _ λc w u v hu hv=>?_⟩
     obtain⟨us,vs,rfl,rfl,hr⟩:=Sz c w u v hu hv
     refine⟨_,?_,rfl⟩
     rw[Sem.run_bind,run_eqGuard_agg w _ _ _ _ _ _ he.1,Result.andThen_ok,run_eql_struct,hr];rfl
    ·refine⟨_,_,h,fin _ λc w u v hu hv=>?_⟩
     obtain⟨us,vs,rfl,rfl,hr⟩:=Sz c w u v hu hv
     refine⟨_,?_,rfl⟩
     rw[Sem.run_bind,run_eqGuard_agg w _ _ _ _ _ _ he.1,Result.andThen_ok,run_neq_struct,hr];rfl
    ·exact h.elim
   ·exact h.elim
  ·exact h.elim
 case unOp op t x=>
  split at h
  ·rename_i k n hx
   refine⟨_,_,h,nk λc w a hm hA ez=>?_⟩
   have:=ez x (by simp[Op.operands])
   rw[hx]at this
   exact⟨_,by simp only[execOp,Rep.int.1 this,Op.unary,Op.intArith,Sem.run_bind,Sem.run_pure];rfl,rfl⟩
  ·rename_i k n hx
   refine⟨_,_,h,nk λc w a hm hA ez=>?_⟩
   have:=ez x (by simp[Op.operands])
   rw[hx]at this
   exact⟨_,by simp only[execOp,Rep.int.1 this,Op.unary,Op.intBits,Sem.run_bind,Sem.run_pure];rfl,rfl⟩
  ·rename_i b hx
   refine⟨_,_,h,nk λc w a hm hA ez=>?_⟩
   have:=ez x (by simp[Op.operands])
   rw[hx]at this
   exact⟨_,by simp only[execOp,Rep.bool.1 this,Op.unary,Sem.run_bind,Sem.run_pure];rfl,rfl⟩
  ·exact h.elim
 case convert s d x=>
  obtain⟨val,hK,hr⟩:=qaB hT h
  refine⟨_,_,hK,nk λc w a hm hA ez=>?_⟩
  obtain⟨u,hu,hx⟩:=hr c w _ (ez x (by simp[Op.operands]))
  exact⟨u,by simp only[execOp];rw[Sem.run_bind,hu];rfl,hx⟩
 case makeSlice t l cp=>
  split at h
  ·rename_i kl n kc m hl hc
   obtain⟨row,val,hK,hr⟩:=zw (kl:=kl) (kc:=kc) hT h
   refine⟨_,_,hK,Sv λc w a hm hA ez=>⟨_,rfl,?_⟩⟩
   have h1:=ez l (by simp[Op.operands]);have h2:=ez cp (by simp[Op.operands])
   rw[hl]at h1;rw[hc]at h2
   rw[Rep.int.1 h1,Rep.int.1 h2]
   exact hr c w
  ·exact h.elim
 case slice t x lo hi mx=>
  cases mx with
  |some m=>simp only at h
  |none=>
   simp only at h
   obtain⟨val,hK,hr⟩:=vW hT h
   refine⟨_,_,hK,nk λc w a hm hA ez=>?_⟩
   obtain⟨u,hu,hx⟩:=hr c w _ a.eval hm hA (ez x (by simp[Op.operands])) (λy hy=>ez y (by simp[Op.operands,hy])) (λy hy=>ez y (by simp[Op.operands,hy]))
   exact⟨u,by simp only[execOp];rw[Sem.run_bind];simp only[Option.map_none];rw[hu];rfl,hx⟩
 case fieldAddr s x f=>
  split at h
  ·rename_i o q n hf
   simp only[de]at h
   obtain⟨h0,h⟩:=h
   have h0:0<n:=lE h0
   obtain⟨fs,fd,g1,g2,g3,g4,g5⟩:=Z6t hT hf
   split at h
   ·rename_i r i off hx
    refine⟨_,_,h,nk λc w a hm hA ez=>?_⟩
    have:=ez x (by simp[Op.operands])
    rw[hx]at this
    obtain⟨row,k1,kV,k2,hv⟩:=this
    refine⟨_,by simp only[execOp,hv];rw[Sem.run_bind,Z9l g1 g2 (by simp only at g5;omega)];rfl,row,k1,kV,k2,by rw[g3,gH]⟩
   ·rename_i sz es i off hx
    refine⟨_,_,h,nk λc w a hm hA ez=>?_⟩
    have:=ez x (by simp[Op.operands])
    rw[hx]at this
    obtain⟨b,oo,arr,ty,fz,hv,hI,hi,hh,hE⟩:=this
    refine⟨_,by simp only[execOp,hv];rw[Sem.run_bind,Z9l g1 g2 (by simp only at g5;omega)];rfl,b,oo,arr,ty,fz,by rw[g3,gH],hI,hi,hh,hE⟩
   ·exact h.elim
  ·exact h.elim
 case field s x f=>
  split at h
  ·rename_i o q n hf
   obtain⟨fs,fd,g1,g2,g3,g4,g5⟩:=Z6t hT hf
   simp only at g4 g5
   split at h
   ·rename_i cs ti hx ht
    simp only[de,aE]at h
    obtain⟨⟨h0,hle⟩,h⟩:=h
    have h0:0<n:=lE h0
    have hle:=lE hle
    obtain⟨_,_,_,_,_,AS,_,_,_,d0,Gt⟩:=Ez (hT.get ht)
    have run:∀(vs:List Value) (w:World) (r:Value),(part q vs.toArray o).run P w=.ok r w->(Instr.field s (.agg vs.toArray) f).run P w=.ok r w:=λvs w r hr=>by
     simp only[Instr.field,Sem.run_bind,run_underlying g1,Result.andThen_ok,g2,asAgg,Sem.run_pure,g4,g3,hr]
    split at h
    ·rename_i DL
     rw[D.ff]at h
     refine⟨_,_,h,nk λc w a hm hA ez=>?_⟩
     have:=ez x (by simp[Op.operands])
     rw[hx]at this
     obtain⟨vs,hv,hr⟩:=this
     have hp:=WV (P:=P) Gt (by rw[<-NG Gt,<-AS];exact DL) (by rw[<-g4,g5];exact h0) vs.toArray o w
     refine⟨_,by simp only[execOp,hv];rw[Sem.run_bind,run vs w _ hp];rfl,(vs.drop o).take n,?_,Zzq hr o n⟩
     rw[<-g4,g5]
     congr 1
     simp[List.extract_toArray,List.extract_eq_take_drop]
    ·rename_i DL
     simp only[D.c7]at h
     obtain⟨Av,h⟩:=h
     refine⟨_,_,h,nk λc w a hm hA ez=>?_⟩
     have:=ez x (by simp[Op.operands])
     rw[hx]at this
     obtain⟨vs,hv,hr⟩:=this
     have hl:=hr.length
     have iy:vs[o]?=some vs[o]:=aI (by omega)
     have hp:=Ir (P:=P) (t:=q) Gt (by rw[<-NG Gt,<-AS];exact DL) (xs:=vs.toArray) (o:=o) (v:=vs[o]) (by rw[bH];exact iy) w
     refine⟨_,by simp only[execOp,hv];rw[Sem.run_bind,run vs w _ hp];rfl,?_⟩
     have hc:=(Fa.1 hr).2 o _ iy
     generalize cs.getD o .dead=d at*
     cases d<;>first|exact hc|trivial|exact hc.elim
   ·exact h.elim
  ·exact h.elim
 case indexAddr t x ix=>
  split at h
  ·rename_i k n hn
   obtain⟨val,hK,hr⟩:=Zxz (k:=k) hT h
   refine⟨_,_,hK,nk λc w a hm hA ez=>?_⟩
   have h2:=ez ix (by simp[Op.operands])
   rw[hn]at h2
   obtain⟨u,hu,hx⟩:=hr c w _ hm hA (ez x (by simp[Op.operands]))
   exact⟨u,by simp only[execOp,Rep.int.1 h2];rw[Sem.run_bind,hu];rfl,hx⟩
  ·exact h.elim
 case index t x ix=>
  split at h
  ·rename_i s k n ht hx hn
   have hd:=nj hT ht
   simp only at hd
   simp only[de,decide_eq_true_eq]at h
   obtain⟨⟨h1,h2⟩,h⟩:=h
   refine⟨_,_,h,nk λc w a hm hA ez=>?_⟩
   have e1:=ez x (by simp[Op.operands]);have e2:=ez ix (by simp[Op.operands])
   rw[hx]at e1;rw[hn]at e2
   refine⟨_,?_,rfl⟩
   have bc:n.toNat<s.length:=by omega
   have hg:(ByteArray.mk s.toArray)[n.toNat]?=some (s.getD n.toNat 0):=by
    have h3:n.toNat<(ByteArray.mk s.toArray).size:=by simpa[ByteArray.size]using bc
    rw[getElem?_pos (ByteArray.mk s.toArray) n.toNat h3]
    simp only[aV,aI bc,aR]
    rfl
   simp only[execOp,Rep.str.1 e1,Rep.int.1 e2,Instr.index,asIntOf,Sem.run_bind,Sem.run_pure,Result.andThen_ok,run_underlying hd,h1,if_true,hg]
  ·rename_i len e iW _ _ _ _ _ cs k n ht hx hn
   have hd:=nj hT ht
   simp only at hd
   obtain⟨hd,ga⟩:=hd
   simp only[de,aE,decide_eq_true_eq]at h
   obtain⟨⟨q1,q2,q3,q4⟩,h⟩:=h
   have q1:=bE q1
   have q2:=bE q2
   have run:∀(vs:List Value) (v:Value) (w:World) (d:TypeDesc),P.underlying e=some d->Sr d=false->vs[n.toNat]?=some v->(Instr.index t (.agg vs.toArray) (.int k n)).run P w=.ok v w:=λvs v w d hu hda hv=>by
    have h0:0<P.cellsOf e:=by omega
    simp only[Instr.index,asIntOf,Sem.run_bind,Sem.run_pure,Result.andThen_ok,run_underlying hd,Sem.run_ite,q3,q4,and_self,if_true,Bs h0]
    rw[ga,q1,Nat.mul_one]
    exact Ir hu hda (by rw[bH];exact hv) w
   have cell:∀(c:Ctx) (w:World) (a:Act),Rep c w (.agg cs) (a.eval x)->∃vs:List Value,a.eval x=.agg vs.toArray/\∃v,vs[n.toNat]?=some v/\dc c w (cs.getD n.toNat .dead) v:=λc w a hr=>by
    obtain⟨vs,hv,hr⟩:=hr
    have hl:=hr.length
    have iy:vs[n.toNat]?=some vs[n.toNat]:=aI (by omega)
    exact⟨vs,hv,_,iy,(Fa.1 hr).2 _ _ iy⟩
   split at h
   ·rename_i kk _ _ _ _ _ he
    have hu:=nj hT he
    simp only at hu
    obtain⟨h1,h⟩:=h
    refine⟨_,_,h,nk λc w a hm hA ez=>?_⟩
    have e1:=ez x (by simp[Op.operands]);have e2:=ez ix (by simp[Op.operands])
    rw[hx]at e1;rw[hn]at e2
    obtain⟨vs,hv,v,g1,g2⟩:=cell c w a e1
    have hi:=WO h1 (n:=n.toNat) (by omega)
    rw[bG]at hi
    rw[D.kH hi]at g2
    refine⟨v,?_,?_⟩
    ·simp only[execOp,Rep.int.1 e2,hv]
     rw[Sem.run_bind,run vs v w _ hu rfl g1];rfl
    ·rw[WM (show n.toNat<len by omega),bG]
     exact g2
   ·rename_i he
    have hu:=nj hT he
    simp only at hu
    obtain⟨h1,h⟩:=h
    refine⟨_,_,h,nk λc w a hm hA ez=>?_⟩
    have e1:=ez x (by simp[Op.operands]);have e2:=ez ix (by simp[Op.operands])
    rw[hx]at e1;rw[hn]at e2
    obtain⟨vs,hv,v,g1,g2⟩:=cell c w a e1
    have hi:=WQ h1 (n:=n.toNat) (by omega)
    rw[bG]at hi
    rw[D.kI hi]at g2
    refine⟨v,?_,?_⟩
    ·simp only[execOp,Rep.int.1 e2,hv]
     rw[Sem.run_bind,run vs v w _ hu rfl g1];rfl
    ·rw[WN (show n.toNat<len by omega),bG]
     exact g2
   ·exact h.elim
  ·exact h.elim
 case extract x i=>
  split at h
  ·rename_i ds hx
   simp only[de,D.c7]at h
   obtain⟨hv,h⟩:=h
   refine⟨_,_,h,nk λc w a hm hA ez=>?_⟩
   have:=ez x (by simp[Op.operands])
   rw[hx]at this
   obtain⟨vs,CF,hr⟩:=this
   have bc:i<ds.length:=by
    by_cases hl:i<ds.length
    ·exact hl
    ·rw[aV,aJ (by omega)]at hv;simp[D.isVal]at hv
   obtain⟨v,Yc,hvr⟩:=Zau hr i bc
   refine⟨v,?_,?_⟩
   ·simp only[execOp,CF,Instr.extract,bH,Yc];rfl
   ·generalize ds.getD i .dead=d at*
    cases d<;>first|exact hvr|trivial|exact hvr.elim
  ·exact h.elim
 case call cl=>
  obtain⟨callee,args,dh⟩:=cl
  cases callee<;>try(simp only at h)
  case builtin b=>
  cases b<;>try(simp only at h)
  case len=>
   split at h
   ·rename_i x t hx ht
    obtain⟨val,hK,hr⟩:=zaR (t':=type) hT h
    refine⟨_,_,hK,nk λc w a hm hA ez=>?_⟩
    have gb:args= #[x]:=by rw[<-bW (xs:=args),hx]
    have uX:dh= #[t]:=by rw[<-bW (xs:=dh),ht]
    subst gb;subst uX
    obtain⟨u,hu,hx⟩:=hr c w _ hm hA (ez x (by simp[Op.operands,Call.operands]))
    refine⟨u,?_,hx⟩
    simp only[execOp,resolve,Sem.run_bind,Sem.run_pure,Result.andThen_ok,invoke,builtin]
    have:(#[x]:Array Operand).map a.eval= #[a.eval x]:=by simp
    rw[this,hu];rfl
   ·exact h.elim
def Ctx.kill(c:Ctx)(ks:List Nat):Ctx:={c with R:=λr=>if da r ks=true then none else(c.R r).map (Row.kill ks)}
structure j6(ks:List Nat)(c:Ctx)(w:World)(c':Ctx)(w':World):Prop where
 mem:Mem c' w'
 cz:ju (c.kill ks) w c' w'
 fr:Fr (λb=>∃r x,c.R r=some x/\¬c.V r/\c.ρ r=b) w w'
 fk:∀b,c'.I b->c.I b\/(∃s row,da s ks=true/\c.R s=some row/\¬c.V s/\c.ρ s=b)\/w.heap.size<=b
 oO:∀r aq,c'.R r=some aq->¬c'.V r->((∃row,c.R r=some row)/\¬c.V r/\c'.ρ r=c.ρ r)\/(∃s row,da s ks=true/\c.R s=some row/\¬c.V s/\c'.ρ r=c.ρ s)\/w.heap.size<=c'.ρ r
def kM(P:Program)(f:FuncId)(args:List D)(rows:List Row)(res:D)(aj:List Row):Prop:=
 ∀ (c:Ctx) (w:World) (vs:List Value),Mem c w->c.base=w.heap.size->(∀r,c.R r=rows[r]?)->kJ c w args vs->
  Calls P f vs.toArray w λe w'=>∃v c',e=.returned v/\mn c w c' w'/\(∀r,c'.R r=aj[r]?)/\Rep c' w' res v
def G8(P:Program)(I:ab)(f:FuncId)(vs:List Value)(w:World)(R:Ending->World->Prop):Prop:=
 (f<YB->Calls P f vs.toArray w R)/\
 (YB<=f->∀l rec xs us,vs=xs++us->I l->w.heap[l]?=some (.loop rec)->SA f us rec->xs.length=1->
  RoundIn Fence.wide 0 P l rec.fn ((rec.params.zip xs.toArray).foldl (λtmps (t,a)=>tmps.setIfInBounds t a) rec.tmps) rec.assign rec.body w R)
theorem G8.mono{f:FuncId}{R R':Ending->World->Prop}(h:G8 P I f vs w R)(hI:∀b,I' b->I b)(hR:∀e w',R e w'->R' e w'):G8 P I' f vs w R':=
 ⟨λhf=>(h.1 hf).mono hR,λhf l rec xs us h1 h2 h3 h4 h5=>(h.2 hf l rec xs us h1 (hI l h2) h3 h4 h5).mono hR⟩
theorem G8.real{f:FuncId}{R:Ending->World->Prop}(hf:f<YB)(h:Calls P f vs.toArray w R):G8 P I f vs w R:=⟨λ_=>h,λhg=>absurd hf (Nat.not_lt.2 hg)⟩
def uG(P:Program)(f:FuncId)(k:Nat)(args:List D)(rows:List Row)(res:D)(aj:List Row):Prop:=
 ∀ (c:Ctx) (w:World) (vs:List Value),Mem c w->c.base=0->(∀r,c.R r=rows[r]?)->kJ c w args vs->
  G8 P c.I f vs w λe w'=>∃v c',e=.returned v/\j6 (List.range' k (rows.length-k)) c w c' w'/\(∀r,c'.R r=aj[r]?)/\Rep c' w' res v
def nE:D->Prop|.int _ _=>True|.bool _=>True|.str _=>True|.c8=>True|.iQ=>True|.emp=>True|_=>False
def CT.nE:CT->Bool|.int _=>true|.bool=>true|.str=>true|_=>false
def RK.nE(k:RK):Bool:=k.sig.all CT.nE
def ag.Gu:ag->Prop
 |.gen es=>∀e∈es,∀d∈e,nE d
 |.ao k _=>k.nE=true
 |_=>True
theorem Zih:∀{ts:List CT} {cs:List D} {j:Nat},ts.all CT.nE=true->∀d∈wV ts cs j,nE d
 |[],_,_,_,d,h=>by simp[wV]at h
 |t ::ts,cs,j,ht,d,h=>by
  simp only[List.all_cons,aE]at ht
  simp only[wV,cQ]at h
  rcases h with h|h
  ·subst h
   cases t<;>first|trivial|(simp[CT.nE]at ht)
  ·exact Zih ht.2 d h
theorem ag.DN{E:ag}(h:E.Gu):∀e∈E.l,∀d∈e,nE d:=by
 cases E with
 |gen es=>exact h
 |ints k l=>
  intro e he d hd
  simp only[ag.l,gJ]at he
  obtain⟨n,_,rfl⟩:=he
  simp at hd
  subst hd;trivial
 |ah l=>
  intro e he d hd
  simp only[ag.l,gJ]at he
  obtain⟨n,_,rfl⟩:=he
  simp at hd
  subst hd;trivial
 |ao k l=>
  intro e he d hd
  simp only[ag.l,gJ]at he
  obtain⟨x,_,rfl⟩:=he
  rw[<-RK.oM]at hd
  exact Zih h d hd
def SB:D->Prop
 |.sl _ es fr=>(es.Nil\/fr=true)/\es.Gu
 |.iu _ _ _ _=>False
 |.gv _ _=>False
 |_=>True
def NJ:List D->Prop
 |[]=>True
 |d::ds=>SB d/\NJ ds
def WW:D->Prop
 |.agg cs=>NJ cs
 |d=>SB d
def Gv:List D->Prop
 |[]=>True
 |d::ds=>WW d/\Gv ds
def FF:D->Prop
 |.dw ds=>Gv ds
 |d=>WW d
def KF(row:Row):Prop:=if row.box then∀e∈row.es.l,NJ e else row.es.Gu
def si:List Row->Prop
 |[]=>True
 |r::l=>KF r/\si l
structure bu(P:Program)(x:bd):Prop where
 enters:x.f<YB->∀args w,(callFunc x.f args).run P w=.ok (.enter x.f args) w
 real:x.gone=none->x.f<YB
 ok:x.gone=none->∀args rows res aj,x.m args rows=.ok res aj->kM P x.f args rows res aj/\(x.flat=true->FF res/\si aj)
 when:x.gone=none->∀args rows p res aj,x.m args rows=.when p res aj->p->kM P x.f args rows res aj/\(x.flat=true->FF res/\si aj)
 abs:x.gone=none->∀args rows α v res aj,x.m args rows=.abs α v res aj->kM P x.f args rows (res v) (aj v)/\(x.flat=true->FF (res v)/\si (aj v))
 lX:x.gone=none->∀args rows p α v res aj,x.m args rows=.lX p α v res aj->p->kM P x.f args rows (res v) (aj v)/\(x.flat=true->FF (res v)/\si (aj v))
 So:∀k,x.gone=some k->∀args rows α v res aj,x.m args rows=.abs α v res aj->uG P x.f k args rows (res v) (aj v)
 Ik:∀k,x.gone=some k->∀args rows p α v res aj,x.m args rows=.lX p α v res aj->p->uG P x.f k args rows (res v) (aj v)
def jU(P:Program)(G:List bd):Prop:=∀x∈G,bu P x
theorem He{P:Program}:∀{G:List bd} {f:FuncId} {x:bd},jU P G->px G f=some x->bu P x/\x.f=f
 |[],f,x,_,h=>by simp[px]at h
 |y ::l,f,x,hG,h=>by
  simp only[px]at h
  split at h
  ·rename_i hb
   simp at h;subst h
   exact⟨hG y (by simp),bE hb⟩
  ·exact He (λz hz=>hG z (by simp[hz])) h
theorem Zwg:∀{rows:List Row} {i:Nat} {row:Row},si rows->rows[i]?=some row->KF row
 |r::l,0,row,h,hi=>by simp at hi;subst hi;exact h.1
 |r::l,i+1,row,h,hi=>Zwg h.2 (by simpa using hi)
 |[],i,row,_,hi=>by simp at hi
theorem oy{r:Nat}:∀{l:List Nat},da r l=true↔r∈l
 |[]=>by simp[da]
 |x ::l=>by
  simp only[da]
  cases hb:Nat.beq x r with
  |true=>have:=bE hb;subst this;simp
  |false=>
   have ia:¬r=x:=λe=>by rw[e]at hb;simp at hb
   simp[oy (l:=l),ia]
theorem Nz:∀{l m:List Nat},ri l m=true↔ ∀r∈l,r∈m
 |[],m=>by simp[ri]
 |x::l,m=>by
  simp only[ri]
  cases hb:da x m with
  |true=>simp[Nz (l:=l),oy.1 hb]
  |false=>simp[show¬x∈m fromλe=>by rw[oy.2 e]at hb;cases hb]
theorem Ww:∀{l m:List Nat},rb l m=true↔ ∀r∈l,¬r∈m
 |[],m=>by simp[rb]
 |x::l,m=>by
  simp only[rb]
  cases hb:da x m with
  |true=>simp[oy.1 hb]
  |false=>simp[Ww (l:=l),show¬x∈m fromλe=>by rw[oy.2 e]at hb;cases hb]
theorem NA:∀{l:List Nat},DO l=true↔l.Nodup
 |[]=>by simp[DO]
 |x::l=>by
  simp only[DO,List.nodup_cons]
  cases hb:da x l with
  |true=>simp[oy.1 hb]
  |false=>simp[NA (l:=l),show¬x∈l fromλe=>by rw[oy.2 e]at hb;cases hb]
theorem Zvg{r:Nat}:∀{l:List Nat} {k:Nat},r∈l->∃j,pos r l k=k+j/\l[j]?=some r
 |x ::l,k,h=>by
  simp only[pos]
  cases hb:Nat.beq x r with
  |true=>exact⟨0,rfl,by simp[bE hb]⟩
  |false=>
   have ia:¬r=x:=λe=>by rw[e]at hb;simp at hb
   have hm:r∈l:=by simpa[ia]using h
   obtain⟨j,h1,h2⟩:=Zvg (k:=k+1) hm
   exact⟨j+1,by show pos r l (k+1)=_;rw[h1];omega,by simpa using h2⟩
theorem Ca{r:Nat}{l:List Nat}(h:r∈l):l[pos r l 0]?=some r:=by
 obtain⟨j,h1,h2⟩:=Zvg (k:=0) h
 rw[h1,bG];exact h2
structure EZ(S:Nat->Prop)(f:Nat->Nat)(dv:Bool)(c1 c2:Ctx):Prop where
 row:∀i row,S i->c1.R i=some row->∃aq,c2.R (f i)=some aq/\aq.box=row.box/\aq.ty=row.ty/\aq.sz=row.sz/\aq.es.l.length=row.es.l.length/\c2.ρ (f i)=c1.ρ i/\(c2.V (f i)↔c1.V i)
 base:dv=true->c2.base<=c1.base
 top:c1.top<=c2.top
theorem xW(hs:nE d)(h:gh I w d v):gh I' w d v:=by
 cases h<;>first|exact hs.elim|constructor
theorem Zhu{I I':ab}{w:World}:∀{cs:List D} {arr:Array Value} {off:Nat},(∀d∈cs,nE d)->py I w cs arr off->py I' w cs arr off
 |[],_,_,_,_=>by simp[EA,EB]
 |d::cs,arr,off,hs,h=>by
  simp only[EA,EB]at h⊢
  obtain⟨⟨v,hv,hp⟩,hr⟩:=h
  exact⟨⟨v,hv,xW (hs d (by simp)) hp⟩,Zhu (λe he=>hs e (by simp[he])) hr⟩
theorem Z4l{I I':ab}{w:World}:∀{es:List (List D)} {arr:Array Value} {off sz:Nat},(∀e∈es,∀d∈e,nE d)->im I w es arr off sz->im I' w es arr off sz
 |[],_,_,_,_,_=>by simp[rV,rF]
 |e::es,arr,off,sz,hs,h=>by
  simp only[rV,rF]at h⊢
  exact⟨h.1,Zhu (hs e (by simp)) h.2.1,Z4l (λf hf=>hs f (by simp[hf])) h.2.2⟩
theorem VRep.Fs{c:Ctx}(h:dc c w d v):VRep c w d v:=by cases d<;>first|exact h|exact h.elim
theorem VRep.toC{c:Ctx}(hd:∀cs,d≠.agg cs)(h:VRep c w d v):dc c w d v:=by cases d<;>first|exact h|exact absurd rfl (hd _)
theorem Rep.LB{c:Ctx}(h:VRep c w d v):Rep c w d v:=by cases d<;>first|exact h|exact h.elim|trivial
theorem Rep.toV{c:Ctx}(hd:∀ds,d≠.dw ds)(h0:d≠.dead)(h:Rep c w d v):VRep c w d v:=by cases d<;>first|exact h|exact absurd rfl (hd _)|exact absurd rfl h0
theorem Zd8{f:Nat->Nat}{dv:Bool}:∀{e:List D},(D.nb f dv e).length=e.length
 |[]=>rfl
 |d::l=>by simp[D.nb,Zd8 (e:=l)]
section
variable {S:Nat->Prop} {f:Nat->Nat} {dv:Bool} {c1 c2:Ctx} {w:World} (hn:EZ S f dv c1 c2) {flat:Prop} (hI:(∀b,c1.I b->c2.I b)\/(flat/\∀b,c1.I b->c1.base<=b->c2.I b))
include hn hI
theorem Zpc(ia:∀f cs,d≠.gv f cs)(hS:∀r∈ou d,S r)(jc:flat->SB d)(h:dc c1 w d v):dc c2 w (d.na f dv) v:=by
 cases d with
 |sl sz es fr=>
  obtain⟨a,cap,hv,hc,gz⟩:=h
  refine⟨a,cap,hv,hc,?_⟩
  rcases gz with gz|⟨b,off,arr,ty,fz,ha,ik,hf,hh,hE⟩
  ·exact .inl gz
  ·have hb:(fr&&dv)=true->c2.base<=b:=λe=>by
    simp only[aE]at e
    exact Nat.le_trans (hn.base e.2) (hf e.1)
   rcases hI with hi|⟨Gw,hi⟩
   ·exact .inr ⟨b,off,arr,ty,fz,ha,hi b ik,hb,hh,ob (λb hb=>⟨hi b hb,rfl⟩) _ _ _ _ hE⟩
   ·obtain⟨h1,h2⟩:=jc Gw
    rcases h1 with h1|h1
    ·exact .inl (ag.oR.1 h1)
    ·exact .inr ⟨b,off,arr,ty,fz,ha,hi b ik (hf h1),hb,hh,Z4l (ag.DN h2) hE⟩
 |all r=>
  obtain⟨row,hr,hb,h⟩:=h
  obtain⟨aq,g1,g2,g3,g4,g5,g6,gV⟩:=hn.row r row (hS r (by simp[ou])) hr
  refine⟨aq,g1,g2.trans hb,?_⟩
  rcases h with⟨hV,hv⟩|⟨hV,cap,arr,hv,h1,h2,h3,h4⟩
  ·obtain⟨a,hv,ho⟩:=hv;exact .inl ⟨gV.2 hV,a,hv,ho.mono hn.top⟩
  ·exact .inr ⟨λe=>hV (gV.1 e),cap,arr,by rw[hv,g5,g6],by rw[g5];exact h1,h2,by rw[g6,g3];exact h3,by rw[g4];exact h4⟩
 |own r o n=>
  obtain⟨row,hr,hb,ho,h⟩:=h
  obtain⟨aq,g1,g2,g3,g4,g5,g6,gV⟩:=hn.row r row (hS r (by simp[ou])) hr
  refine⟨aq,g1,g2.trans hb,by rw[g5];exact ho,?_⟩
  rcases h with⟨h0,a,hv,jI⟩|⟨hV,cap,arr,h1,h2,h3,h4,h5⟩
  ·exact .inl ⟨h0,a,hv,jI.mono hn.top gV g6⟩
  ·exact .inr ⟨λe=>hV (gV.1 e),cap,arr,h1,h2,by rw[g6,g3];exact h3,by rw[g4,g6];exact h4,by rw[g4];exact h5⟩
 |ptr r i off=>
  obtain⟨row,hr,hV,hi,hv⟩:=h
  obtain⟨aq,g1,g2,g3,g4,g5,g6,gV⟩:=hn.row r row (hS r (by simp[ou])) hr
  exact⟨aq,g1,λe=>hV (gV.1 e),by rw[g5];exact hi,by rw[hv,g6,g4]⟩
 |pa r i off len k n=>
  obtain⟨bc,row,hr,hV,hi,hv⟩:=h
  obtain⟨aq,g1,g2,g3,g4,g5,g6,gV⟩:=hn.row r row (hS r (by simp[ou])) hr
  exact⟨bc,aq,g1,λe=>hV (gV.1 e),by rw[g5];exact hi,by rw[hv,g6,g4]⟩
 |iu sz es i off=>
  obtain⟨b,o,arr,ty,fz,hv,ik,iT,hh,hE⟩:=h
  rcases hI with hi|⟨Gw,hi⟩
  ·exact⟨b,o,arr,ty,fz,hv,hi b ik,iT,hh,ob (λb hb=>⟨hi b hb,rfl⟩) _ _ _ _ hE⟩
  ·exact(jc Gw).elim
 |gw r=>
  rcases h with h|⟨row,hr,hV,hi,hv⟩
  ·exact .inl h
  ·obtain⟨aq,g1,g2,g3,g4,g5,g6,gV⟩:=hn.row r row (hS r (by simp[ou])) hr
   exact .inr ⟨aq,g1,λe=>hV (gV.1 e),by rw[g5];exact hi,by rw[hv,g6,g4]⟩
 |gv f cs=>exact absurd rfl (ia f cs)
 |emp=>obtain⟨a,hv,ho⟩:=h;exact⟨a,hv,ho.mono hn.top⟩
 |_=>exact h
theorem Zk5(hS:∀r∈ou d,S r)(jc:flat->SB d)(h:dc c1 w d v):dc c2 w (d.na f dv) v:=by
 by_cases e:∃g cs,d=.gv g cs
 ·obtain⟨g,cs,rfl⟩:=e
  obtain⟨us,hv,hu⟩:=h
  have hi:∀b,c1.I b->c2.I b/\w.heap[b]?=w.heap[b]? :=by
   rcases hI with hi|⟨Gw,_⟩
   ·exactλb hb=>⟨hi b hb,rfl⟩
   ·exact(jc Gw).elim
  exact⟨us,NF hi hv,Zlp (Fk:=λ_=>True) (λd v h1 h2 h3=>Zpc hn (flat:=False) (.inl λb hb=>(hi b hb).1) h1 h2 (λe=>e.elim) h3) (λ_ _ _ _=>NF hi) (λ_ _ _=>trivial) hS hu⟩
 ·exact Zpc hn hI (λf cs e'=>e ⟨f,cs,e'⟩) hS jc h
theorem Zv6:∀{ds:List D} {vs:List Value},(∀r∈rO ds,S r)->(flat->NJ ds)->jG c1 w ds vs->jG c2 w (D.nb f dv ds) vs
 |[],[],_,_,_=>trivial
 |d::ds,v::vs,hS,jc,h=>⟨Zk5 hn hI (λr hr=>hS r (by simp[rO,hr])) (λe=>(jc e).1) h.1,Zv6 (λr hr=>hS r (by simp[rO,hr])) (λe=>(jc e).2) h.2⟩
 |[],_::_,_,_,h=>h.elim
 |_::_,[],_,_,h=>h.elim
theorem SC(hS:∀r∈Gq d,S r)(jc:flat->WW d)(h:VRep c1 w d v):VRep c2 w (d.jB f dv) v:=by
 cases d with
 |agg cs=>obtain⟨vs,hv,hr⟩:=h;exact⟨vs,hv,Zv6 hn hI hS jc hr⟩
 |dw ds=>exact h.elim
 |_=>
  refine VRep.Fs (Zk5 hn hI ?_ ?_ (VRep.toC ?_ h))
  ·exact hS
  ·exact jc
  ·intro cs e;cases e
theorem Zvm:∀{ds:List D} {vs:List Value},(∀d∈ds,∀r∈Gq d,S r)->(flat->Gv ds)->kJ c1 w ds vs->kJ c2 w (D.Bt f dv ds) vs
 |[],[],_,_,_=>trivial
 |d::ds,v::vs,hS,jc,h=>⟨SC hn hI (hS d (by simp)) (λe=>(jc e).1) h.1,Zvm (λd hd=>hS d (by simp[hd])) (λe=>(jc e).2) h.2⟩
 |[],_::_,_,_,h=>h.elim
 |_::_,[],_,_,h=>h.elim
theorem Zkh(hS:∀r,S r)(jc:flat->FF d)(h:Rep c1 w d v):Rep c2 w (d.tK f dv) v:=by
 cases d with
 |dw ds=>obtain⟨vs,hv,hr⟩:=h;exact⟨vs,hv,Zvm hn hI (λ_ _ r _=>hS r) jc hr⟩
 |agg cs=>exact SC hn hI (d:=.agg cs) (λr _=>hS r) jc h
 |dead=>trivial
 |_=>
  have h':=Rep.toV (λds e=>by cases e) (λe=>by cases e) h
  have h2:=SC hn hI (λr _=>hS r) (λe=>by have:=jc e;exact this) h'
  exact Rep.LB h2
theorem WX:∀{ds:List D} {arr:Array Value} {off:Nat},(∀r∈rO ds,S r)->(flat->NJ ds)->lg c1 w ds arr off->lg c2 w (D.nb f dv ds) arr off
 |[],_,_,_,_,_=>trivial
 |d::ds,arr,off,hS,jc,⟨⟨v,hv,h1⟩,h2⟩=>⟨⟨v,hv,Zk5 hn hI (λr hr=>hS r (by simp[rO,hr])) (λe=>(jc e).1) h1⟩,WX (λr hr=>hS r (by simp[rO,hr])) (λe=>(jc e).2) h2⟩
theorem Zsk{i j:Nat}(Ss:c2.ρ j=c1.ρ i)(hV:c2.V j↔c1.V i)(hS:row.box=true->∀e,row.es=.gen [e]->∀r∈rO e,S r)(jc:flat->KF row)(h:Fv c1 w i row):Fv c2 w j (row.jB f dv):=by
 have sh:(row.jB f dv).box=row.box/\(row.jB f dv).ty=row.ty/\(row.jB f dv).sz=row.sz:=by
  unfold Row.jB;split<;>exact⟨rfl,rfl,rfl⟩
 rcases h with⟨h0,h1,h2,h3⟩|⟨h0,arr,ha,hs,hx⟩
 ·refine .inl ⟨hV.2 h0,?_⟩
  unfold Row.jB
  split
  ·simp at h1
  ·exact⟨h1,h2,h3⟩
 ·refine .inr ⟨λe=>h0 (hV.1 e),arr,by rw[Ss,sh.2.1];exact ha,by rw[sh.2.2];exact hs,?_⟩
  rw[sh.1,sh.2.2]
  split
  ·rename_i hb
   simp only[hb,if_true]at hx
   obtain⟨e,k1,k2,k3,k4⟩:=hx
   obtain⟨box,ty,sz,es⟩:=row
   simp only at hb k1 k2 k3 k4
   subst hb;subst k1
   refine⟨D.nb f dv e,rfl,?_,k3,WX hn hI (hS rfl e rfl) (λe'=>?_) k4⟩
   ·rw[Zd8];exact k2
   ·have:=jc e'
    simp only[KF,if_true]at this
    exact this e (by simp[ag.l])
  ·rename_i hb
   simp only[hb,aA,if_false]at hx
   have he:(row.jB f dv).es=row.es:=by
    unfold Row.jB
    split
    ·simp at hb
    ·rfl
   rw[he]
   rcases hI with hi|⟨Gw,hi⟩
   ·exact ob (λb hb=>⟨hi b hb,rfl⟩) _ _ _ _ hx
   ·have:=jc Gw
    simp only[KF,hb,aA,if_false]at this
    exact Z4l (ag.DN this) hx
end
def Ctx.pass(c:Ctx)(w:World)(ids:List Nat)(rows:List Row)(len:Bool):Ctx:=
 { ρ:=λi=>match ids[i]? with|some r=>c.ρ r|none=>0,R:=λi=>rows[i]?,V:=λi=>match ids[i]? with|some r=>c.V r|none=>False,
   I:=λb=>c.I b\/(len=true/\ ∃r row,c.R r=some row/\ ¬c.V r/\row.box=false/\r∉ids/\c.ρ r=b),base:=w.heap.size,top:=c.top,X:=λ_=>False}
section
variable {c:Ctx} {w:World} {R:Rows} {ids:List Nat} {dz:List Row} {len:Bool}
theorem Zvx(hm:Mem c w)(hA:mN c R)(h:Zk R d=some d')(hl:ou d≠[]->len=true)(hd:∀r∈ou d,r∉ids)(hr:dc c w d v):dc (c.pass w ids dz len) w d' v:=by
 have oi:∀b,c.I b->(c.pass w ids dz len).I b/\w.heap[b]?=w.heap[b]? :=λb hb=>⟨.inl hb,rfl⟩
 cases d<;>simp only[Zk]at h<;>try(cases h;done)
 case bool b=>cases h;exact hr
 case int k n=>cases h;exact hr
 case str s=>cases h;exact hr
 case iQ=>cases h;exact hr
 case j4=>cases h;exact hr
 case c8=>cases h;exact⟨none,0,hr,aX _,.inl rfl⟩
 case emp=>cases h;obtain⟨a,hv,_⟩:=hr;exact⟨a,0,hv,aX _,.inl rfl⟩
 case sl sz es fr=>
  cases h
  obtain⟨a,cap,hv,hc,gz⟩:=hr
  refine⟨a,cap,hv,hc,?_⟩
  rcases gz with gz|⟨b,off,arr,ty,fz,ha,hI,hf,hh,hE⟩
  ·exact .inl gz
  ·exact .inr ⟨b,off,arr,ty,fz,ha,.inl hI,by simp,hh,ob oi _ _ _ _ hE⟩
 case all r=>
  split at h
  ·rename_i row hR
   split at h
   ·rename_i hb
    cases h
    obtain⟨aq,g1,g2,hv⟩:=hr
    have:=hA r aq _ g1 hR
    subst this
    rcases hv with⟨hV,a,hv,_⟩|⟨hV,cap,arr,hv,g3,g4,g5,g6⟩
    ·have he:=(hm.nZ g1 hV).2.1
     exact⟨a,0,by rw[he];exact hv,by rw[he];exact aX _,.inl he⟩
    refine⟨_,cap,hv,g3,?_⟩
    obtain⟨iX,jV,hs,hx⟩:=hm.real g1 hV
    rw[g5]at jV;cases jV
    simp only[hb,aA,if_false]at hx
    exact .inr ⟨_,0,arr,_,_,rfl,.inr ⟨hl (by simp[ou]),r,_,g1,hV,hb,hd r (by simp[ou]),rfl⟩,by simp,g5,ob oi _ _ _ _ hx⟩
   ·cases h
  ·cases h
 case own r o n=>
  split at h
  ·rename_i row hR
   split at h
   ·rename_i hb
    cases h
    obtain⟨aq,g1,g2,g5,hv⟩:=hr
    have:=hA r aq _ g1 hR
    subst this
    have hlen:((aq.es.drop o).take n).l.length=n:=by rw[ag.jo,ag.kL];simp only[List.length_take,List.length_drop];omega
    rcases hv with⟨g7,a,hv,_⟩|⟨hV,cap,arr,g3,g4,g6,hv,g7⟩
    ·subst g7
     exact⟨a,0,by rw[hlen];exact hv,by omega,.inl (by rw[ag.jo];simp)⟩
    obtain⟨iX,jV,hs,hx⟩:=hm.real g1 hV
    rw[g6]at jV;cases jV
    simp only[hb,aA,if_false]at hx
    refine⟨_,cap,by rw[hlen];exact hv,by omega,.inr ⟨_,o*aq.sz,arr,_,_,rfl,.inr ⟨hl (by simp[ou]),r,_,g1,hV,hb,hd r (by simp[ou]),rfl⟩,by simp,g6,ob oi _ _ _ _ ?_⟩⟩
    have:=Nw (n:=n) (Lw (l:=o) hx)
    rw[ag.jo,ag.kL]
    simpa using this
   ·cases h
  ·cases h
theorem Zvd(hm:Mem c w)(hA:mN c R):∀{ds oP:List D} {vs:List Value},KB R ds=some oP->(rO ds≠[]->len=true)->(∀r∈rO ds,r∉ids)->jG c w ds vs->jG (c.pass w ids dz len) w oP vs
 |[],oP,[],h,_,_,_=>by simp[KB]at h;subst h;trivial
 |[],_,_::_,_,_,_,hr=>hr.elim
 |_::_,_,[],_,_,_,hr=>hr.elim
 |d ::ds,oP,v::vs,h,hl,hd,hr=>by
  simp only[KB]at h
  split at h
  ·rename_i x xs h1 h2
   cases h
   exact⟨Zvx hm hA h1 (λe=>hl (by simp[rO,e])) (λr e=>hd r (by simp[rO,e])) hr.1,Zvd hm hA h2 (λe=>hl (by simp[rO,e])) (λr e=>hd r (by simp[rO,e])) hr.2⟩
  ·cases h
theorem Zv5(hm:Mem c w)(hA:mN c R)(h:conv R d=some d')(hl:Gq d≠[]->len=true)(hd:∀r∈Gq d,r∉ids)(hr:Rep c w d v):VRep (c.pass w ids dz len) w d' v:=by
 cases d with
 |agg cs=>
  simp only[conv,Option.map_eq_some_iff]at h
  obtain⟨ss,h1,rfl⟩:=h
  obtain⟨vs,hv,hx⟩:=hr
  exact⟨vs,hv,Zvd hm hA h1 hl hd hx⟩
 |dw ds=>simp[conv,Zk]at h
 |dead=>simp[conv,Zk]at h
 |_=>
  simp only[conv]at h
  simp only[Rep,VRep]at hr
  exact VRep.Fs (Zvx hm hA h hl hd hr)
theorem Gp{f:Nat->Nat}:∀{ids:List Nat} {rows:List Row},BZ R f ids=some rows->rows.length=ids.length/\∀(i r:Nat),ids[i]?=some r->∃row,R.getD r none=some row/\rows[i]?=some (row.jB f false)
 |[],rows,h=>by simp[BZ]at h;subst h;exact⟨rfl,λi r h=>by simp at h⟩
 |r ::l,rows,h=>by
  simp only[BZ]at h
  split at h
  ·rename_i row rs h1 h2
   cases h
   obtain⟨g1,g2⟩:=Gp h2
   refine⟨by simp[g1],λi q hq=>?_⟩
   cases i with
   |zero=>simp at hq;subst hq;exact⟨row,h1,rfl⟩
   |succ i=>exact g2 i q (by simpa using hq)
  ·cases h
theorem Kz(f:Nat->Nat)(dv:Bool)(row:Row):(row.jB f dv).box=row.box/\(row.jB f dv).ty=row.ty/\(row.jB f dv).sz=row.sz/\(row.jB f dv).es.l.length=row.es.l.length:=by
 unfold Row.jB;split<;>exact⟨rfl,rfl,rfl,rfl⟩
theorem Zct{r:Nat}:∀{l:List Nat},r∈DG R l↔ ∃q∈l,∃ty sz e,R.getD q none=some ⟨true,ty,sz,.gen [e]⟩/\r∈rO e
 |[]=>by simp[DG]
 |q ::l=>by
  simp only[DG,List.mem_append,Zct (l:=l),cQ]
  constructor
  ·rintro(h|⟨q',h1,h2⟩)
   ·split at h
    ·rename_i ty sz e he
     exact⟨q,.inl rfl,ty,sz,e,he,h⟩
    ·simp at h
   ·exact⟨q',.inr h1,h2⟩
  ·rintro⟨q',h1|h1,ty,sz,e,h2,h3⟩
   ·subst h1
    left
    rw[h2];exact h3
   ·exact .inr ⟨q',h1,ty,sz,e,h2,h3⟩
theorem WC(hR:∀r row,r∈ids->R.getD r none=some row->c.R r=some row)(db:BZ R (λr=>pos r ids 0) ids=some dz):EZ (λr=>r∈ids) (λr=>pos r ids 0) false c (c.pass w ids dz len):=by
 obtain⟨hl,hg⟩:=Gp db
 refine⟨λr row hr c6=>?_,(λh=>by cases h),aX _⟩
 have hp:=Ca hr
 obtain⟨j0,h1,h2⟩:=hg _ r hp
 have:row=j0:=by have:=hR r j0 hr h1;rw[c6]at this;exact Option.some.inj this
 subst this
 obtain⟨s1,s2,s3,s4⟩:=Kz (λr=>pos r ids 0) false row
 exact⟨_,h2,s1,s2,s3,s4,by simp[Ctx.pass,hp],by simp[Ctx.pass,hp]⟩
theorem Zl9(hm:Mem c w)(hR:∀r row,r∈ids->R.getD r none=some row->c.R r=some row)(lH:ids.Nodup)(jH:∀r∈DG R ids,r∈ids)(db:BZ R (λr=>pos r ids 0) ids=some dz):Mem (c.pass w ids dz len) w:=by
 have hn:=WC (len:=len) (w:=w) hR db
 obtain⟨hl,hg⟩:=Gp db
 have inv:∀i x,(c.pass w ids dz len).R i=some x->∃r row,ids[i]?=some r/\c.R r=some row/\R.getD r none=some row/\x=row.jB (λr=>pos r ids 0) false/\(c.pass w ids dz len).ρ i=c.ρ r/\((c.pass w ids dz len).V i↔c.V r):=by
  intro i x hx
  have j5:dz[i]?=some x:=hx
  have bc:=(List.getElem?_eq_some_iff.1 j5).1
  have hi:ids[i]?=some ids[i]:=aI (by omega)
  obtain⟨row,h1,h2⟩:=hg i _ hi
  rw[j5]at h2
  exact⟨_,row,hi,hR _ row (gC hi) h1,h1,Option.some.inj h2,by simp[Ctx.pass,hi],by simp[Ctx.pass,hi]⟩
 refine⟨λi x hx=>?_,λi j x y hx hy v1 v2 he=>?_,λb hb=>?_,hm.top,hm.kb.mono λb hb=>⟨.inl hb,rfl⟩⟩
 ·obtain⟨r,row,g1,g2,g3,rfl,g5,g6⟩:=inv i x hx
  refine Zsk hn (flat:=False) (.inl λb hb=>.inl hb) g5 g6 (λGx e he q hq=>?_) (λe=>e.elim) (hm.row r row g2)
  obtain⟨box,ty,sz,es⟩:=row
  simp only at Gx he
  subst Gx
  have h1:∃e0,es=.gen [e0]:=by
   rcases hm.row r _ g2 with⟨_,hh,_⟩|⟨_,arr,_,_,hx⟩
   ·cases hh
   ·simp only[if_true]at hx;obtain⟨e0,h,_⟩:=hx;exact⟨e0,h⟩
  obtain⟨e0,rfl⟩:=h1
  cases he
  exact jH q (Zct.2 ⟨r,gC g1,ty,sz,e,g3,hq⟩)
 ·obtain⟨r,row,g1,g2,g3,_,g5,g6⟩:=inv i x hx
  obtain⟨s,aq,k1,k2,k3,_,k5,k6⟩:=inv j y hy
  rw[g5,k5]at he
  have:r=s:=hm.inj r s _ _ g2 k2 (λe=>v1 (g6.2 e)) (λe=>v2 (k6.2 e)) he
  subst this
  exact(List.getElem?_inj (List.getElem?_eq_some_iff.1 g1).1 lH).1 (g1.trans k1.symm)
 ·rcases hb with hb|⟨_,r,row,hr,hV,Ap,Jt,rfl⟩
  ·refine⟨(hm.fk b hb).1,λi x hx v=>?_⟩
   obtain⟨r,row,g1,g2,g3,_,g5,g6⟩:=inv i x hx
   rw[g5];exact(hm.fk b hb).2 r row g2 (λe=>v (g6.2 e))
  ·refine⟨hm.lt hr hV,λi x hx v=>?_⟩
   obtain⟨s,aq,g1,g2,g3,_,g5,g6⟩:=inv i x hx
   rw[g5]
   intro e
   have:=hm.inj s r _ _ g2 hr (λe=>v (g6.2 e)) hV e
   subst this
   exact Jt (gC g1)
theorem NB(hm:Mem c w)(hA:mN c R)(hn:EZ (λr=>r∈ids) (λr=>pos r ids 0) false c (c.pass w ids dz len)){ρ:Operand->Value}{ev:Operand->D}:
 ∀{bs:List Bool} {xs:List Operand} {oP:List D},tG R (λr=>pos r ids 0) bs (xs.map ev)=some oP->(mh bs (xs.map ev)≠[]->len=true)->(∀r∈mh bs (xs.map ev),r∉ids)->(∀r∈DP bs (xs.map ev),r∈ids)->(∀x∈xs,Rep c w (ev x) (ρ x))->kJ (c.pass w ids dz len) w oP (xs.map ρ)
 |bs,[],oP,h,_,_,_,_=>by cases bs<;>(try(rename_i b bs;cases b))<;>(simp[tG]at h;subst h;trivial)
 |true::bs,x::xs,oP,h,hl,hd,hi,hr=>by
  simp only[fX,tG]at h
  simp only[fX,mh,DP]at hl hd hi
  split at h
  ·rename_i ys hv h2
   cases h
   have hx:VRep c w (ev x) (ρ x):=Rep.toV (λds e=>by rw[e]at hv;simp[D.isVal]at hv) (λe=>by rw[e]at hv;simp[D.isVal]at hv) (hr x (by simp))
   exact⟨SC hn (flat:=False) (.inl λb hb=>.inl hb) (λr e=>hi r (by simp[e])) (λe=>e.elim) hx,NB hm hA hn h2 hl hd (λr e=>hi r (by simp[e])) λy hy=>hr y (by simp[hy])⟩
  ·cases h
 |false::bs,x::xs,oP,h,hl,hd,hi,hr=>by
  simp only[fX,tG]at h
  simp only[fX,mh,DP]at hl hd hi
  split at h
  ·rename_i y ys h1 h2
   cases h
   exact⟨Zv5 hm hA h1 (λe=>hl (by simp[e])) (λr e=>hd r (by simp[e])) (hr x (by simp)),NB hm hA hn h2 (λe=>hl (by simp[e])) (λr e=>hd r (by simp[e])) hi λy hy=>hr y (by simp[hy])⟩
  ·cases h
 |[],x::xs,oP,h,hl,hd,hi,hr=>by
  simp only[fX,tG]at h
  simp only[fX,mh,DP]at hl hd hi
  split at h
  ·rename_i y ys h1 h2
   cases h
   refine⟨Zv5 hm hA h1 (λe=>hl (by simp[e])) (λr e=>hd r (by simp[e])) (hr x (by simp)),NB hm hA hn h2 (λe=>hl (by simp[e])) (λr e=>hd r (by simp[e])) (λr e=>?_) λy hy=>hr y (by simp[hy])⟩
   cases xs<;>simp[DP]at e
  ·cases h
end
theorem WY{f:Nat->Nat}:∀{ids:List Nat} {rows:List Row} {R:Rows},ids.Nodup->ids.length<=rows.length->(∀r∈ids,r<R.length)->
 (uD f ids rows R).length=R.length/\(∀(i r:Nat),ids[i]?=some r->∃row,rows[i]?=some row/\(uD f ids rows R).getD r none=some (row.jB f true))/\∀r,r∉ids->(uD f ids rows R).getD r none=R.getD r none
 |[],rows,R,_,_,_=>by
  have:uD f [] rows R=R:=by cases rows<;>rfl
  rw[this]
  exact⟨rfl,λi r h=>by simp at h,λ_ _=>rfl⟩
 |r::ids,[],R,_,hl,_=>by simp at hl
 |r ::ids,row::rows,R,lH,hl,bc=>by
  obtain⟨Jt,Ky⟩:=List.nodup_cons.1 lH
  obtain⟨g1,g2,g3⟩:=WY (f:=f) (ids:=ids) (rows:=rows) (R:=R.set r (some (row.jB f true))) Ky (by simpa using hl) (λq hq=>by simpa using bc q (by simp[hq]))
  have hr:=bc r (by simp)
  have hat:(R.set r (some (row.jB f true))).getD r none=some (row.jB f true):=by simp[aV,hr]
  have ia:∀q,q≠r->(R.set r (some (row.jB f true))).getD q none=R.getD q none:=λq hq=>by simp[aV,List.getElem?_set_ne (Ne.symm hq)]
  simp only[uD]
  refine⟨by simpa using g1,λi q hq=>?_,λq hq=>?_⟩
  ·cases i with
   |zero=>
    simp at hq;subst hq
    exact⟨row,rfl,by rw[g3 _ Jt];exact hat⟩
   |succ i=>simpa using g2 i q (by simpa using hq)
  ·have h1:q≠r:=λe=>hq (by simp[e])
   rw[g3 q (λe=>hq (by simp[e])),ia q h1]
def Ctx.behind(c:Ctx)(w:World)(c':Ctx)(ids:List Nat)(n0:Nat)(R2:Rows):Ctx:=
 { ρ:=λr=>if n0<=r/\r<R2.length then c'.ρ (ids.length+(r-n0)) else c.ρ r,
   R:=λr=>if r∈ids\/(n0<=r/\r<R2.length) then R2.getD r none else c.R r,
   V:=λr=>if n0<=r/\r<R2.length then c'.V (ids.length+(r-n0)) else c.V r,
   I:=λb=>c.I b\/(c'.I b/\w.heap.size<=b),base:=c.base,top:=c'.top,X:=c.X}
theorem Zsy{f:Nat->Nat}{rows:List Row}:(Cd f rows)[i]?=rows[i]?.map λrow=>some (row.jB f true):=by simp[Cd]
theorem Zc1{c c':Ctx}{R:Rows}{ids:List Nat}{dz aj:List Row}{len:Bool}(hm:Mem c w)(hb:c.base<=w.heap.size)(oE:∀r row,r∈ids->R.getD r none=some row->c.R r=some row)(fe:∀r,R.length<=r->r<R.length+(aj.length-ids.length)->c.R r=none)
 (lH:ids.Nodup) (db:BZ R (λr=>pos r ids 0) ids=some dz) (hle:ids.length<=aj.length) (hx:mn (c.pass w ids dz len) w c' w') (ku:∀i,c'.R i=aj[i]?)
 (hI:len=true->si aj) {R2:Rows} (wv:R2=uD (bk ids R.length) ids aj R++Cd (bk ids R.length) (aj.drop ids.length)):
 (EZ (λ_=>True) (bk ids R.length) true c' (c.behind w c' ids R.length R2))/\((∀b,c'.I b->(c.behind w c' ids R.length R2).I b)\/(len=true/\∀b,c'.I b->c'.base<=b->(c.behind w c' ids R.length R2).I b))/\
 Mem (c.behind w c' ids R.length R2) w'/\ju c w (c.behind w c' ids R.length R2) w'/\Fr (λb=>∃r x,c.R r=some x/\¬c.V r/\r∈ids/\c.ρ r=b) w w'/\
 (∀b,(c.behind w c' ids R.length R2).I b->c.I b\/w.heap.size<=b)/\
 (∀r,R.length<=r->r<R2.length->¬(c.behind w c' ids R.length R2).V r->w.heap.size<=(c.behind w c' ids R.length R2).ρ r):=by
 obtain⟨jH,Bn⟩:=Gp db
 have bc:∀r∈ids,r<R.length:=λr hr=>by
  obtain⟨row,h1,_⟩:=Bn _ r (Ca hr)
  by_cases hl:r<R.length
  ·exact hl
  ·rw[aV,aJ (by omega)]at h1;cases h1
 obtain⟨k1,k2,k3⟩:=WY (f:=bk ids R.length) lH hle bc
 have wW:R2.length=R.length+(aj.length-ids.length):=by rw[wv];simp[k1,Cd]
 have Sn:∀r,r<R.length->R2.getD r none=(uD (bk ids R.length) ids aj R).getD r none:=λr hr=>by
  rw[wv,aV,aV,bI (by omega)]
 have hhi:∀i,ids.length<=i->i<aj.length->R2.getD (R.length+(i-ids.length)) none=aj[i]?.map λrow=>row.jB (bk ids R.length) true:=λi h1 h2=>by
  rw[wv,aV,List.getElem?_append_right (by omega),Zsy,k1,show R.length+(i-ids.length)-R.length=i-ids.length by omega,fZ,show ids.length+(i-ids.length)=i by omega]
  rw[aI h2];rfl
 have jD:c'.base=w.heap.size:=hx.cz.base
 have jW:∀i r aq,ids[i]?=some r->c'.R i=some aq->∃row,c.R r=some row/\aq.box=row.box/\aq.ty=row.ty/\aq.sz=row.sz/\aq.es.l.length=row.es.l.length/\c'.ρ i=c.ρ r/\(c'.V i↔c.V r)/\r<R.length/\R2.getD r none=some (aq.jB (bk ids R.length) true)/\bk ids R.length i=r/\
  (¬c.V r->∀arr,w.heap[c.ρ r]?=some (.cells arr row.ty (0,0))->∃iX,w'.heap[c.ρ r]?=some (.cells iX row.ty (0,0))/\iX.size=arr.size):=by
  intro i r aq hi jF
  obtain⟨row,h1,h2⟩:=Bn i r hi
  have mU:=gC hi
  have h3:=oE r row mU h1
  obtain⟨tD,g1,g2,g3,g4,g5,g6,gV,g7⟩:=hx.cz.R i _ (show(c.pass w ids dz len).R i=some _ from h2)
  rw[jF]at g1;cases g1
  obtain⟨s1,s2,s3,s4⟩:=Kz (λr=>pos r ids 0) false row
  obtain⟨lz,q1,q2⟩:=k2 i r hi
  rw[ku,q1]at jF;cases jF
  refine⟨row,h3,g2.trans s1,g3.trans s2,g4.trans s3,g5.trans s4,by simpa[Ctx.pass,hi]using g6,by simpa[Ctx.pass,hi]using gV,bc r mU,by rw[Sn r (bc r mU)];exact q2,by simp[bk,hi],λnv arr ha=>?_⟩
  have:=g7 (by simpa[Ctx.pass,hi]using nv) arr (by simpa[Ctx.pass,hi,s2]using ha)
  simpa[Ctx.pass,hi,s2]using this
 have fresh:∀i aq,ids.length<=i->c'.R i=some aq->i<aj.length/\R2.getD (R.length+(i-ids.length)) none=some (aq.jB (bk ids R.length) true)/\bk ids R.length i=R.length+(i-ids.length)/\(¬c'.V i->w.heap.size<=c'.ρ i):=by
  intro i aq hi jF
  have h1:aj[i]?=some aq:=by rw[<-ku];exact jF
  have h2:=(List.getElem?_eq_some_iff.1 h1).1
  refine⟨h2,by rw[hhi i hi h2,h1];rfl,by simp[bk,aJ hi],λnv=>?_⟩
  rcases hx.oO i aq jF nv with⟨⟨x,pP⟩,_⟩|h3
  ·have:dz[i]?=some x:=pP
   rw[aJ (by omega)]at this;cases this
  ·exact h3
 have DE:EZ (λ_=>True) (bk ids R.length) true c' (c.behind w c' ids R.length R2):=by
  refine⟨λi aq _ jF=>?_,λ_=>by rw[jD];exact hb,aX _⟩
  obtain⟨s1,s2,s3,s4⟩:=Kz (bk ids R.length) true aq
  by_cases hi:i<ids.length
  ·have iT:ids[i]?=some ids[i]:=aI hi
   obtain⟨row,g1,g2,g3,g4,g5,g6,g7,g8,g9,g10,_⟩:=jW i _ aq iT jF
   rw[g10]
   exact⟨_,by simp only[Ctx.behind];rw[if_pos (.inl (gC iT))];exact g9,s1,s2,s3,s4,by simp only[Ctx.behind];rw[if_neg (by omega),g6],by simp only[Ctx.behind];rw[if_neg (by omega)];exact g7.symm⟩
  ·obtain⟨h1,h2,h3,h4⟩:=fresh i aq (by omega) jF
   rw[h3]
   have hc:R.length<=R.length+(i-ids.length)/\R.length+(i-ids.length)<R2.length:=by omega
   have he:ids.length+(R.length+(i-ids.length)-R.length)=i:=by omega
   exact⟨_,by simp only[Ctx.behind];rw[if_pos (.inr hc)];exact h2,s1,s2,s3,s4,by simp only[Ctx.behind];rw[if_pos hc,he],by simp only[Ctx.behind];rw[if_pos hc,he]⟩
 have DQ:(∀b,c'.I b->(c.behind w c' ids R.length R2).I b)\/(len=true/\∀b,c'.I b->c'.base<=b->(c.behind w c' ids R.length R2).I b):=by
  cases hl:len with
  |false=>
   refine .inl λb ik=>?_
   rcases hx.fk b ik with h1|h1
   ·rcases h1 with h1|⟨h1,_⟩
    ·exact .inl h1
    ·rw[hl]at h1;cases h1
   ·exact .inr ⟨ik,h1⟩
  |true=>exact .inr ⟨rfl,λb ik hbb=>.inr ⟨ik,by omega⟩⟩
 have CM:Fr (λb=>∃r x,c.R r=some x/\¬c.V r/\r∈ids/\c.ρ r=b) w w':=hx.fr.mono λb _ ⟨i,x,h1,h2,h3⟩=>by
  have sK:dz[i]?=some x:=h1
  have hi:i<ids.length:=by have:=(List.getElem?_eq_some_iff.1 sK).1;omega
  have iT:ids[i]?=some ids[i]:=aI hi
  obtain⟨row,g1,g2⟩:=Bn i _ iT
  exact⟨_,row,oE _ row (gC iT) g1,by simpa[Ctx.pass,iT]using h2,gC iT,by simpa[Ctx.pass,iT]using h3⟩
 have inv:∀r x,(c.behind w c' ids R.length R2).R r=some x->(∃i aq,c'.R i=some aq/\x=aq.jB (bk ids R.length) true/\(c.behind w c' ids R.length R2).ρ r=c'.ρ i/\((c.behind w c' ids R.length R2).V r↔c'.V i)/\(r∈ids/\ids[i]?=some r/\(c.behind w c' ids R.length R2).ρ r=c.ρ r/\((c.behind w c' ids R.length R2).V r↔c.V r)\/R.length<=r/\ids.length<=i/\r=R.length+(i-ids.length)))\/
  (c.R r=some x/\r∉ids/\(c.behind w c' ids R.length R2).ρ r=c.ρ r/\((c.behind w c' ids R.length R2).V r↔c.V r)/\¬(R.length<=r/\r<R2.length)):=by
  intro r x j5
  by_cases mU:r∈ids
  ·left
   have hp:=Ca mU
   obtain⟨lz,q1,q2⟩:=k2 _ r hp
   have tE:c'.R (pos r ids 0)=some lz:=by rw[ku];exact q1
   obtain⟨row,g1,g2,g3,g4,g5,g6,g7,g8,g9,g10,_⟩:=jW _ r lz hp tE
   simp only[Ctx.behind]at j5
   rw[if_pos (.inl mU),g9]at j5
   cases j5
   have e1:(c.behind w c' ids R.length R2).ρ r=c.ρ r:=by simp only[Ctx.behind];rw[if_neg (by omega)]
   have e2:(c.behind w c' ids R.length R2).V r↔c.V r:=by simp only[Ctx.behind];rw[if_neg (by omega)]
   exact⟨_,lz,tE,rfl,by rw[e1,g6],by rw[e2,g7],.inl ⟨mU,hp,e1,e2⟩⟩
  ·by_cases hc:R.length<=r/\r<R2.length
   ·left
    have hi:ids.length+(r-R.length)<aj.length:=by omega
    have tE:c'.R (ids.length+(r-R.length))=some aj[ids.length+(r-R.length)]:=by rw[ku];exact aI hi
    obtain⟨h1,h2,h3,h4⟩:=fresh _ _ (by omega) tE
    simp only[Ctx.behind]at j5
    rw[if_pos (.inr hc)]at j5
    rw[show R.length+(ids.length+(r-R.length)-ids.length)=r by omega]at h2
    rw[h2]at j5
    cases j5
    exact⟨_,_,tE,rfl,by simp only[Ctx.behind];rw[if_pos hc],by simp only[Ctx.behind];rw[if_pos hc],.inr ⟨hc.1,by omega,by omega⟩⟩
   ·right
    simp only[Ctx.behind]at j5
    rw[if_neg (by rintro(h|h)<;>contradiction)]at j5
    exact⟨j5,mU,by simp only[Ctx.behind];rw[if_neg hc],by simp only[Ctx.behind];rw[if_neg hc],hc⟩
 have rM:ju c w (c.behind w c' ids R.length R2) w':=by
  refine⟨rfl,hx.cz.top,λb ik=>⟨.inl ik,?_⟩,λr row hr=>?_⟩
  ·exact(hx.cz.I b (.inl ik)).2
  ·by_cases mU:r∈ids
   ·have hp:=Ca mU
    obtain⟨lz,q1,q2⟩:=k2 _ r hp
    have tE:c'.R (pos r ids 0)=some lz:=by rw[ku];exact q1
    obtain⟨j0,g1,g2,g3,g4,g5,g6,g7,g8,g9,g10,g11⟩:=jW _ r lz hp tE
    rw[hr]at g1;cases g1
    obtain⟨s1,s2,s3,s4⟩:=Kz (bk ids R.length) true lz
    exact⟨_,by simp only[Ctx.behind];rw[if_pos (.inl mU)];exact g9,s1.trans g2,s2.trans g3,s3.trans g4,s4.trans g5,by simp only[Ctx.behind];rw[if_neg (by omega)],by simp only[Ctx.behind];rw[if_neg (by omega)],g11⟩
   ·have hc:¬(R.length<=r/\r<R2.length):=λhc=>by rw[fe r hc.1 (by omega)]at hr;cases hr
    refine⟨row,by simp only[Ctx.behind];rw[if_neg (by rintro(h|h)<;>contradiction)];exact hr,rfl,rfl,rfl,rfl,by simp only[Ctx.behind];rw[if_neg hc],by simp only[Ctx.behind];rw[if_neg hc],λnv arr ha=>⟨arr,?_,rfl⟩⟩
    rw[CM.heap _ (hm.lt hr nv) fun⟨s,x,h1,h2,h3,h4⟩=>mU (by rw[<-hm.inj s r x row h1 hr h2 nv h4];exact h3)]
    exact ha
 refine⟨DE,DQ,⟨λr x j5=>?_,λr s x y hr hs v1 v2 he=>?_,λb ik=>?_,hx.mem.top,hm.kb.mono rM.I⟩,rM,CM,λb ik=>?_,λr h1 h2 h3=>?_⟩
 ·rcases inv r x j5 with⟨i,aq,h1,rfl,h3,h4,_⟩|⟨h1,h2,h3,h4,h5⟩
  ·refine Zsk DE DQ h3 h4 (λ_ _ _ _ _=>trivial) (λhf=>?_) (hx.mem.row i aq h1)
   exact Zwg (hI hf) (by rw[<-ku];exact h1)
  ·exact uf rM h3 h4 (λnv=>CM.heap _ (hm.lt h1 nv) fun⟨s,x',g1,g2,g3,g4⟩=>h2 (by rw[<-hm.inj s r x' x g1 h1 g2 nv g4];exact g3)) (hm.row r x h1)
 ·have Is:∀i aq,c'.R i=some aq->¬c'.V i->(∃q,q∈ids/\ids[i]?=some q/\(∃y,c.R q=some y)/\¬c.V q/\c'.ρ i=c.ρ q)\/w.heap.size<=c'.ρ i:=λi aq h1 nv=>by
   by_cases hi:i<ids.length
   ·have iT:ids[i]?=some ids[i]:=aI hi
    obtain⟨row,g1,g2,g3,g4,g5,g6,g7,_⟩:=jW i _ aq iT h1
    exact .inl ⟨_,gC iT,iT,⟨row,g1⟩,λe=>nv (g7.2 e),g6⟩
   ·exact .inr ((fresh i aq (by omega) h1).2.2.2 nv)
  rcases inv r x hr with⟨i,x',h1,_,h3,h4,h5⟩|⟨h1,h2,h3,h4,h5⟩<;>rcases inv s y hs with⟨j,y',g1,_,g3,g4,g5⟩|⟨g1,g2,g3,g4,g5⟩
  ·have:i=j:=hx.mem.inj i j x' y' h1 g1 (λe=>v1 (h4.2 e)) (λe=>v2 (g4.2 e)) (by rw[<-h3,<-g3];exact he)
   subst this
   rcases h5 with⟨_,q1,_⟩|⟨_,q1,q2⟩<;>rcases g5 with⟨_,p1,_⟩|⟨_,p1,p2⟩
   ·rw[q1]at p1;exact Option.some.inj p1
   ·have:=(List.getElem?_eq_some_iff.1 q1).1;omega
   ·have:=(List.getElem?_eq_some_iff.1 p1).1;omega
   ·omega
  ·exfalso
   have nv:=λe=>v1 (h4.2 e)
   have ns:=λe=>v2 (g4.2 e)
   rw[h3,g3]at he
   rcases Is i x' h1 nv with⟨q,q1,q2,⟨z,q3⟩,q4,q5⟩|q
   ·exact g2 (by rw[<-hm.inj q s z y q3 g1 q4 ns (by rw[<-q5];exact he)];exact q1)
   ·have:=hm.lt g1 ns;omega
  ·exfalso
   have nv:=λe=>v2 (g4.2 e)
   have ns:=λe=>v1 (h4.2 e)
   rw[h3,g3]at he
   rcases Is j y' g1 nv with⟨q,q1,q2,⟨z,q3⟩,q4,q5⟩|q
   ·exact h2 (by rw[<-hm.inj q r z x q3 h1 q4 ns (by rw[<-q5];exact he.symm)];exact q1)
   ·have:=hm.lt h1 ns;omega
  ·exact hm.inj r s x y h1 g1 (λe=>v1 (h4.2 e)) (λe=>v2 (g4.2 e)) (by rw[<-h3,<-g3];exact he)
 ·rcases ik with ik|⟨ik,e6⟩
  ·refine⟨Nat.lt_of_lt_of_le (hm.fk b ik).1 CM.size,λr x hr v=>?_⟩
   rcases inv r x hr with⟨i,x',h1,_,h3,h4,h5⟩|⟨h1,h2,h3,h4,h5⟩
   ·have:=(hx.mem.fk b ((hx.cz.I b (.inl ik)).1)).2 i x' h1 (λe=>v (h4.2 e))
    rw[h3];exact this
   ·rw[h3];exact(hm.fk b ik).2 r x h1 (λe=>v (h4.2 e))
  ·refine⟨(hx.mem.fk b ik).1,λr x hr v=>?_⟩
   rcases inv r x hr with⟨i,x',h1,_,h3,h4,h5⟩|⟨h1,h2,h3,h4,h5⟩
   ·rw[h3];exact(hx.mem.fk b ik).2 i x' h1 (λe=>v (h4.2 e))
   ·have:=hm.lt h1 (λe=>v (h4.2 e))
    rw[h3];omega
 ·rcases ik with h|⟨_,h⟩
  ·exact .inl h
  ·exact .inr h
 ·have hi:ids.length+(r-R.length)<aj.length:=by omega
  have tE:c'.R (ids.length+(r-R.length))=some aj[ids.length+(r-R.length)]:=by rw[ku];exact aI hi
  obtain⟨_,_,_,h4⟩:=fresh _ _ (by omega) tE
  simp only[Ctx.behind,if_pos (show R.length<=r/\r<R2.length from⟨h1,h2⟩)]at h3⊢
  exact h4 h3
theorem Z3s(args:List D):DP [] args=[]:=by cases args<;>rfl
theorem Znq(R:Rows)(args:List D):mZ R [] args=[]:=by
 unfold mZ;rw[Z3s];rfl
theorem Zka{x:bd}(dx:bu P x){f:FuncId}(hf:x.f=f)(hy:x.f<YB){pos:String}{guard:Option (Nat×Bool)}
 (h:Calls P x.f (args.toList.map a.eval).toArray w λe w'=>∃v,e=.returned v/\K (a.put dst v) w'):(⟨dst,.call ⟨.value (.func f),args,dh⟩,type,pos,after,guard⟩:Oper).nM P a w K Q:=by
 have il:(execOp a.eval (⟨dst,.call ⟨.value (.func f),args,dh⟩,type,pos,after,guard⟩:Oper)).run P w=.ok (.enter f (args.toList.map a.eval).toArray) w:=by
  simp only[execOp,resolve,Act.eval,Deferred.ofValue,Sem.run_bind,Sem.run_pure,Result.andThen_ok,invoke,Array.empty_append,Array.append_empty]
  rw[<-hf,dx.enters hy,<-bV,bW]
 unfold Oper.nM
 rw[il]
 show Calls P f _ w _
 rw[<-hf]
 exact h
theorem zW (hG:jU P G){f:FuncId}{guard:Option (Nat×Bool)}{R:Rows}{K:D->Rows->Prop}
    (mo:pK G f=none) (h:tL G f (args.toList.map ev) R K): ∃val R' x,K val R'/\px G f=some x/\Fu P ⟨dst, .call ⟨.value (.func f),args,dh⟩,type,pos',after,guard⟩ ev R val R'/\(x.refs=[]->rC P ⟨dst, .call ⟨.value (.func f),args,dh⟩,type,pos',after,guard⟩ ev R val R'):=by
  unfold tL at h
  split at h
  . rename_i x hx
    have w4:x.gone=none:=by simpa [pK,hx] using mo
    obtain⟨dx,hf⟩:=He hG hx
    split at h
    . rename_i az dz has jh
      simp only[de,Bool.or_eq_true,aE]at h
      obtain⟨⟨⟨Gw,h1,h2⟩,h3,h4⟩,h⟩:=h
      generalize KA:mZ R x.refs (args.toList.map ev)=ids at*
      have wx:=Nz.1 h1
      have jH:=Nz.1 h2
      have lH:=NA.1 h3
      have o8:=Ww.1 h4
      have main : ∀res aj,ids.length<=aj.length->K (res.tK (bk ids R.length) true) (uD (bk ids R.length) ids aj R++Cd (bk ids R.length) (aj.drop ids.length))->kM P x.f az dz res aj->(x.flat=true->FF res/\si aj)->
          ∃val R' y,K val R'/\px G f=some y/\Fu P ⟨dst, .call ⟨.value (.func f),args,dh⟩,type,pos',after,guard⟩ ev R val R'/\(y.refs=[]->rC P ⟨dst, .call ⟨.value (.func f),args,dh⟩,type,pos',after,guard⟩ ev R val R'):=by
        intro res aj hle hK hA jc
        let len:=match mh x.refs (args.toList.map ev) with|[]=>false|_=>true
        have hlen:mh x.refs (args.toList.map ev)≠[]->len=true:=by
          intro ia
          show(match mh x.refs (args.toList.map ev) with|[]=>false|_=>true)=true
          split
          . contradiction
          . rfl
        have Ax:len=true->x.flat=true:=by
          intro hl
          rcases Gw with h|h
          . exact h.1
          . exfalso
            have hl:(match mh x.refs (args.toList.map ev) with|[]=>false|_=>true)=true:=hl
            split at h
            . rename_i e;rw[e]at hl;cases hl
            . cases h
        have core: ∀(c:Ctx) (w:World) (a:Act),Mem c w->c.base<=w.heap.size->mN c R->(∀r row,r∈ids->R.getD r none=some row->c.R r=some row)->(∀r,R.length<=r->r<R.length+(aj.length-ids.length)->c.R r=none)->(∀y∈args.toList,Rep c w (ev y) (a.eval y))->
            ∀(K':Act->World->Prop) (Q:Exit->Act->World->Prop),(∀v w' c',mn (c.pass w ids dz len) w c' w'->(∀i,c'.R i=aj[i]?)->Rep (c.behind w c' ids R.length (uD (bk ids R.length) ids aj R++Cd (bk ids R.length) (aj.drop ids.length))) w' (res.tK (bk ids R.length) true) v->K' (a.put dst v) w')->
            (⟨dst, .call ⟨.value (.func f),args,dh⟩,type,pos',after,guard⟩:Oper).nM P a w K' Q:=by
          intro c w a hm hb pJ oE fe ez K' Q rU
          have hn:=WC (len:=len) (w:=w) oE jh
          have gb:=NB (len:=len) (ρ:=a.eval) hm pJ hn has hlen o8 wx ez
          have mQ:=hA (c.pass w ids dz len) w _ (Zl9 hm oE lH jH jh) rfl (λr=>rfl) gb
          refine Zka dx hf (dx.real w4) (mQ.mono λe w' tF=> ?_)
          obtain⟨v,c',he,oh,ku,lr⟩:=tF
          obtain⟨g1,g2,_⟩:=Zc1 hm hb oE fe lH jh hle oh ku (λe=>(jc (Ax e)).2) rfl
          exact⟨v,he,rU v w' c' oh ku (Zkh g1 g2 (λ_=>trivial) (λe=>(jc (Ax e)).1) lr)⟩
        have jy: ∀(c:Ctx) (w:World) (a:Act),(∀y∈(⟨dst, .call ⟨.value (.func f),args,dh⟩,type,pos',after,guard⟩:Oper).op.operands,Rep c w (ev y) (a.eval y))-> ∀y∈args.toList,Rep c w (ev y) (a.eval y):=λc w a ez y hy=>ez y (by simp [Op.operands,Call.operands];exact .inr (by simpa using hy))
        refine⟨_,_,x,hK,hx,λc w a hm hb hR ez K' Q rU=> ?_,λhrefs=> ?_⟩
        . have pJ:mN c R:=λr row aq g1 g2=>by rw[hR,g2]at g1;exact(Option.some.inj g1).symm
          have oE: ∀r row,r∈ids->R.getD r none=some row->c.R r=some row:=λr row _ e=>by rw[hR];exact e
          have fe: ∀r,R.length<=r->r<R.length+(aj.length-ids.length)->c.R r=none:=λr e _=>by rw[hR,aV,aJ e];rfl
          refine core c w a hm hb pJ oE fe (jy c w a ez) K' Q λv w' c' oh ku lr=> ?_
          obtain⟨g1,g2,g3,g4,g5,g6,g7⟩:=Zc1 hm hb oE fe lH jh hle oh ku (λe=>(jc (Ax e)).2) rfl
          have wW:(uD (bk ids R.length) ids aj R).length=R.length:=(WY lH hle (λr hr=>by
            obtain⟨row,q1,_⟩:=(Gp jh).2 _ r (Ca hr)
            by_cases hl:r<R.length
            . exact hl
            . rw[aV,aJ (by omega)]at q1;cases q1)).1
          have iy:=WY (f:=bk ids R.length) lH hle (λr hr=>by
            obtain⟨row,q1,_⟩:=(Gp jh).2 _ r (Ca hr)
            by_cases hl:r<R.length
            . exact hl
            . rw[aV,aJ (by omega)]at q1;cases q1)
          refine rU v w' _ ⟨g3,g4,g5.mono λb _ ⟨r,y,k1,k2,_,k4⟩=>⟨r,y,k1,k2,k4⟩,g6,λr aq hr hv=> ?_⟩ (λr=> ?_) lr
          . by_cases hc:R.length<=r/\r<(uD (bk ids R.length) ids aj R++Cd (bk ids R.length) (aj.drop ids.length)).length
            . exact .inr (g7 r hc.1 hc.2 hv)
            . left
              simp only[Ctx.behind,if_neg hc]at hv⊢
              refine⟨?_,hv,trivial⟩
              simp only[Ctx.behind]at hr
              split at hr
              . rename_i It
                rcases It with It|It
                . obtain⟨row,q1,_⟩:=(Gp jh).2 _ r (Ca It)
                  exact⟨row,oE r row It q1⟩
                . contradiction
              . exact⟨_,hr⟩
          . simp only[Ctx.behind]
            split
            . rfl
            . rename_i It
              have h1:r∉ids:=λe=>It (.inl e)
              by_cases bc:r<R.length
              . rw[aV,bI (by omega),<-aV,iy.2.2 r h1,hR]
              . rw[hR,aV,aJ (by omega),aV,aJ (by
                  by_cases h2:r<(uD (bk ids R.length) ids aj R++Cd (bk ids R.length) (aj.drop ids.length)).length
                  . exact(It (.inr ⟨by omega,h2⟩)).elim
                  . omega)]
        . have SD:ids=[]:=by rw[<-KA,hrefs];exact Znq R _
          subst SD
          have wC:uD (bk [] R.length) [] aj R=R:=by cases aj<;>rfl
          rw[wC]
          simp only[dE,gK]at*
          refine⟨⟨_,rfl⟩,λc w a hm hb pJ fe ez K' Q rU=> ?_⟩
          have oE: ∀r row,r∈([]:List Nat)->R.getD r none=some row->c.R r=some row:=λr row e=>by cases e
          have Iu: ∀r,R.length<=r->r<R.length+(aj.length-0)->c.R r=none:=λr e1 e2=>fe r e1 (by simp [Cd];omega)
          refine core c w a hm hb pJ oE Iu (jy c w a ez) K' Q λv w' c' oh ku lr=> ?_
          obtain⟨g1,g2,g3,g4,g5,g6,g7⟩:=Zc1 hm hb oE Iu lH jh hle oh ku (λe=>(jc (Ax e)).2) rfl
          rw[wC]at g3 g4 g6 g7 lr
          simp only[dE,gK]at g3 g4 g6 g7 lr
          refine rU v w' _ ⟨g3,g4,g5.mono (λb _ ⟨r,y,k1,k2,k3,k4⟩=>(by cases k3)),g6,λr=> ?_,λr hr=> ?_,λr k1 k2=>g7 r k1 k2⟩ lr
          . simp [Ctx.behind]
          . simp only[Ctx.behind]
            rw[if_neg (by omega),if_neg (by omega)]
            exact⟨rfl,Iff.rfl⟩
      split at h
      . rename_i res aj hm
        simp only[Fe,de,D.c7,nP]at h
        obtain⟨h5,h6⟩:=dx.ok w4 _ _ _ _ hm
        exact main res aj (lE h.1) h.2 h5 h6
      . rename_i p res aj hm
        simp only[Fe,de,D.c7,nP]at h
        obtain⟨h5,h6⟩:=dx.when w4 _ _ _ _ _ hm h.1
        exact main res aj (lE h.2.1) h.2.2 h5 h6
      . rename_i α v res aj hm
        have h:=h v rfl
        simp only[Fe,de,D.c7,nP]at h
        obtain⟨h5,h6⟩:=dx.abs w4 _ _ _ _ _ _ hm
        exact main (res v) (aj v) (lE h.1) h.2 h5 h6
      . rename_i p α v res aj hm
        obtain⟨hp,h⟩:=h
        have h:=h v rfl
        simp only[Fe,de,D.c7,nP]at h
        obtain⟨h5,h6⟩:=dx.lX w4 _ _ _ _ _ _ _ hm hp
        exact main (res v) (aj v) (lE h.1) h.2 h5 h6
      . exact h.elim
    . exact h.elim
  . exact h.elim
theorem Zht{f:Nat->Nat}:∀{ds:List D},WZ ds=true->D.nb f true ds=ds
 |[],_=>rfl
 |d ::l,h=>by
  simp only[WZ]at h
  split at h
  ·rename_i hd
   simp only[D.nb,Zht h]
   cases d<;>first|(simp[SE]at hd;done)|simp[D.na]
  ·cases h
theorem Zr2{f:Nat->Nat}(h:tM d=true):d.jB f true=d:=by
 cases d with
 |agg cs=>show D.agg (D.nb f true cs)=_;rw[Zht h]
 |_=>first|(simp[tM,SE]at h;done)|simp[D.jB,D.na]
theorem Zh2{f:Nat->Nat}:∀{ds:List D},W0 ds=true->D.Bt f true ds=ds
 |[],_=>rfl
 |d ::l,h=>by
  simp only[W0]at h
  split at h
  ·rename_i hd
   simp only[D.Bt,Zh2 h,Zr2 hd]
  ·cases h
theorem Zyi{f:Nat->Nat}(h:wD d=true):d.tK f true=d:=by
 cases d with
 |dw ds=>show D.dw (D.Bt f true ds)=_;rw[Zh2 h]
 |agg cs=>exact Zr2 (d:=.agg cs) h
 |_=>first|(simp[wD,tM,SE]at h;done)|simp[D.tK,D.jB,D.na]
theorem Ze3{R:Rows}(f g:Nat->Nat):∀{ds:List D},tG R f [] ds=tG R g [] ds
 |[]=>rfl
 |d::l=>by simp only[tG,Ze3 f g (ds:=l)]
theorem yW{G:List bd}{f:FuncId}{args:List D}{R:Rows}{K:D->Rows->Prop}(h:LC G f args R K):tL G f args R K:=by
 unfold LC at h
 split at h
 ·rename_i x hx
  split at h
  ·rename_i hrefs
   split at h
   ·rename_i az has
    simp only[de]at h
    have hv:∀{res:D} {aj:List Row},NK R res aj K->Fe R [] res aj K:=by
     intro res aj h
     have wC:uD (bk [] R.length) [] aj R=R:=by cases aj<;>rfl
     simp only[Fe,de,dE,gK,wC]
     refine⟨by simp,?_⟩
     unfold NK at h
     split at h
     ·simp only[de,D.c7]at h
      rw[Zyi h.1]
      simp only[D.c7,nP,Cd,List.map_nil,List.append_nil]
      exact h.2
     ·exact h
    unfold tL
    simp only[hx,hrefs,Znq]
    rw[Ze3 _ (λr=>r),has]
    simp only[BZ,de,Z3s]
    refine⟨?_,?_⟩
    ·have:∀l:List Nat,rb l []=true:=λl=>by
      rw[Ww];intro r _ hr;cases hr
     simp only[ri,DG,DO,this,Bool.and_true]
     have h1:=h.1
     revert h1
     cases mh [] args<;>simp[DR]
    ·revert h
     cases x.m az []with
     |no=>exactλh=>h.2
     |ok res aj=>exactλh=>hv h.2
     |«when»p res aj=>exactλh=>⟨h.2.1,hv h.2.2⟩
     |abs α v res aj=>exactλh X hX=>hv (h.2 X hX)
     |lX p α v res aj=>exactλh=>⟨h.2.1,λX hX=>hv (h.2.2 X hX)⟩
   ·exact h.elim
  ·exact h
 ·exact h.elim
theorem Yw(hG:jU P G){f:FuncId}{guard:Option (Nat×Bool)}{R:Rows}{K:D->Rows->Prop}
 (mo:pK G f=none) (h:LC G f (args.toList.map ev) R K):∃val R' x,K val R'/\px G f=some x/\Fu P ⟨dst,.call ⟨.value (.func f),args,dh⟩,type,pos',after,guard⟩ ev R val R'/\(x.refs=[]->rC P ⟨dst,.call ⟨.value (.func f),args,dh⟩,type,pos',after,guard⟩ ev R val R'):=
 zW hG mo (yW h)
