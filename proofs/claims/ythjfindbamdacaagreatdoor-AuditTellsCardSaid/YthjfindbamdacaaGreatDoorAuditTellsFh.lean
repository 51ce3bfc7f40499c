import Derived.Shelf.Strings.Builder1
import Derived.Test.YthjfindbamdacaaGreatDoorAuditTellsFd
import Derived.Test.YthjfindbamdacaaGreatDoorAuditTellsShelf
import Derived.Test.YthjfindbamdacaaGreatDoorAuditTellsBase
import Derived.Shelf.Spec.SlicesGrow
import Derived.Lib.ItoaNum
import Derived.Lib.ItoaMem
open Nat renaming add_zero->bG,zero_mul->cM,le_refl->aO,lt_of_lt_of_le->bI,le_trans->bH,zero_add->aX
open Array renaming ext_getElem?->cK,getElem?_eq_none->cL,getElem?_modify->cN
set_option linter.all false
namespace Go.GD
open Go
theorem Z9f{I:ag}{w:World}{k:IntKind}:∀{l:List Int} {arr:Array Value} {off:Nat},iN I w (ai.ints k l).l arr off 1->∀j x,l[j]?=some x->arr[off+j]?=some (.int k x)
 |[],_,_,_,j,x,h=>by simp at h
 |n ::l,arr,off,h,j,x,hx=>by
  have h':=oq.1 h
  obtain⟨_,h1,h2⟩:=h'
  obtain⟨⟨v,hv,hp⟩,_⟩:=Aw.1 h1
  cases j with
  |zero=>
   have e:n=x:=by simpa using hx
   rw[bG,hv,rV.1 hp,e]
  |succ j=>
   have:=Z9f (l:=l) h2 j x (by simpa using hx)
   rw[show off+(j+1)=off+1+j by omega];exact this
theorem vd{I I':ag}{w w':World}{d:D}{v:Value}(hs:lg d)(h:fw I w d v):fw I' w' d v:=by
 cases h<;>first|exact hs.elim|constructor
theorem Z4p{I I':ag}{w w':World}:∀{cs:List D} {arr:Array Value} {off:Nat},(∀d∈cs,lg d)->nT I w cs arr off->nT I' w' cs arr off
 |[],_,_,_,_=>BU.2 trivial
 |d::cs,arr,off,hs,h=>by
  obtain⟨⟨v,hv,hp⟩,hr⟩:=Aw.1 h
  exact Aw.2 ⟨⟨v,hv,vd (hs d (by simp)) hp⟩,Z4p (λe he=>hs e (by simp[he])) hr⟩
theorem Z4o{I I':ag}{w w':World}:∀{es:List (List D)} {arr:Array Value} {off sz:Nat},(∀e∈es,∀d∈e,lg d)->iN I w es arr off sz->iN I' w' es arr off sz
 |[],_,_,_,_,_=>pT.2 trivial
 |e::es,arr,off,sz,hs,h=>by
  obtain⟨h1,h2,h3⟩:=oq.1 h
  exact oq.2 ⟨h1,Z4p (hs e (by simp)) h2,Z4o (λf hf=>hs f (by simp[hf])) h3⟩
theorem Zio{P:Program}{f:FuncId}{ty u:TypeId}
 (h0:∀(b:Nat) (w:World) (x:Value),w.heap[b]?=some (.cells #[.pointer none,x] ty (0,0))->Calls P f #[.pointer (some ⟨b,0,none⟩)] w λe w'=>e=.returned (.tuple #[])/\w'=w.setCell ⟨b,0,none⟩ (.pointer (some ⟨b,0,none⟩)))
 (h1:∀(b:Nat) (w:World) (x:Value),w.heap[b]?=some (.cells #[.pointer (some ⟨b,0,none⟩),x] ty (0,0))->Calls P f #[.pointer (some ⟨b,0,none⟩)] w λe w'=>e=.returned (.tuple #[])/\w'=w)
 (E:ai):kq P f [.ptr 0 0 0] [⟨true,ty,2,.gen [[.c8 0,.all 1]]⟩,⟨false,u,1,E⟩] (.dt []) [⟨true,ty,2,.gen [[.c8 0,.all 1]]⟩,⟨false,u,1,E⟩]:=by
 intro c w vs hm hb hR ha
 match vs,ha with
 |[v],ha=>
  obtain⟨⟨row,g1,gV,g2,rfl⟩,_⟩:=ha
  have uA:c.R 0=some ⟨true,ty,2,.gen [[.c8 0,.all 1]]⟩:=by rw[hR];rfl
  obtain⟨arr,hh,_,pq⟩:=hm.real uA gV
  simp only[if_true]at pq
  obtain⟨e,k1,k2,k3,k4⟩:=pq
  have he:[.c8 0,.all 1]=e:=by injection k1 with k1;exact(List.cons.inj k1).1
  subst he
  obtain⟨⟨p,hp,S0⟩,⟨x,hx,uE⟩,_⟩:=k4
  have my:arr= #[p,x]:=by
   apply cK
   intro i
   match i with
   |0=>simpa using hp
   |1=>simpa using hx
   |n+2=>rw[cL (by omega),cL (by simp)]
  subst my
  simp only[cM,bG]at S0 g1⊢
  have cr:row.sz=2:=by rw[uA]at g1;rw[<-Option.some.inj g1]
  rcases S0 with rfl|⟨aq,r1,r2,r3,rfl⟩
  ·refine(h0 _ w x hh).mono ?_
   rintro e w' ⟨rfl,rfl⟩
   have rz:w.setCell ⟨c.ρ 0,0,none⟩ (.pointer (some ⟨c.ρ 0,0,none⟩))=w.setRow (c.ρ 0) #[.pointer (some ⟨c.ρ 0,0,none⟩),x]:=by
    rw[setCell_eq_setRow w (c.ρ 0) 0 _ ty (0,0) _ hh];rfl
   rw[rz]
   obtain⟨hg,hw⟩:=hm.write (aq:=⟨true,ty,2,.gen [[.c8 0,.all 1]]⟩) (arr:= #[.pointer (some ⟨c.ρ 0,0,none⟩),x]) uA gV hh rfl rfl rfl rfl rfl
   have jT:=hw ⟨Nat.two_pos,by
    simp only[if_true]
    exact⟨_,rfl,rfl,rfl,⟨_,rfl,.inr ⟨⟨true,ty,2,.gen [[.c8 0,.all 1]]⟩,by simp[Ctx.jI],gV,Nat.one_pos,rfl⟩⟩,⟨x,rfl,Nv hg uE⟩,trivial⟩⟩
   refine⟨_,c.jI 0 ⟨true,ty,2,.gen [[.c8 0,.all 1]]⟩,rfl,⟨jT,hg,(SE w _ _).mono λb _ e=>⟨0,_,uA,gV,e.symm⟩,λb hb=>.inl hb,λs oz hs hv=>.inl ?_⟩,λr=>?_,[],rfl,trivial⟩
   ·by_cases e:s=0
    ·subst e;exact⟨⟨_,uA⟩,hv,rfl⟩
    ·exact⟨⟨oz,by simpa[Ctx.jI,e]using hs⟩,hv,rfl⟩
   ·simp only[Ctx.jI]
    by_cases e:r=0
    ·subst e;rfl
    ·rw[if_neg e,hR]
  ·simp only[cM,bG]at hh⊢
   refine(h1 _ w x hh).mono ?_
   rintro e w' ⟨rfl,rfl⟩
   exact⟨_,c,rfl,⟨hm,jq.refl _ _,Fr.refl _ _,λb hb=>.inl hb,λr aq hr hv=>.inl ⟨⟨aq,hr⟩,hv,rfl⟩⟩,hR,[],rfl,trivial⟩
def wO(w:World)(g:Option Nat)(s:List UInt8)(e:Ending)(w':World):Prop:=
 e = .returned (.string ⟨s.toArray⟩)/\w'.os=w.os/\w'.tape=w.tape/\w'.output=w.output/\w.heap.size<=w'.heap.size/\(∀k,k<w.heap.size->g≠some k->w'.heap[k]?=w.heap[k]?)/\
  ∀k arr t fz,g=some k->w.heap[k]?=some (.cells arr t fz)->∃WR,w'.heap[k]?=some (.cells arr t WR)
theorem qe{P:Program}{f:FuncId}(hf:f<YB){ty u:TypeId}
 (h0:∀(b:Nat) (w:World) (p:Value) (a:Option Addr),AI w.heap.size a->w.heap[b]?=some (.cells #[p,.slice a 0 0] ty (0,0))->Calls P f #[.pointer (some ⟨b,0,none⟩)] w (wO w none []))
 (h1:∀(b g:Nat) (w:World) (p:Value) (cur:Array Value) (l:List Int),w.heap[b]?=some (.cells #[p,.slice (some ⟨g,0,none⟩) l.length cur.size] ty (0,0))->w.heap[g]?=some (.cells cur u (0,0))->l.length<=cur.size->cur.size<=maxLen->(∀(j:Nat) (x:Int),l[j]?=some x->cur[j]?=some (Value.int .u8 x))->
  Calls P f #[.pointer (some ⟨b,0,none⟩)] w (wO w (some g) (bytesOf l)))
 (l:List Int):sN P f 1 [.ptr 0 0 0] [⟨true,ty,2,.gen [[.c8 0,.all 1]]⟩,⟨false,u,1,.ints .u8 l⟩] (.str (bytesOf l)) [⟨true,ty,2,.gen [[.c8 0,.sl 1 (.ints .u8 l) false]]⟩]:=by
 intro c w vs hm hb hR ha
 refine Gz.real hf ?_
 match vs,ha with
 |[v],ha =>
  obtain⟨⟨row,g1,gV,g2,rfl⟩,_⟩:=ha
  have uA:c.R 0=some ⟨true,ty,2,.gen [[.c8 0,.all 1]]⟩:=by rw[hR];rfl
  have Ax:c.R 1=some ⟨false,u,1,.ints .u8 l⟩:=by rw[hR];rfl
  obtain⟨arr,hh,_,pq⟩:=hm.real uA gV
  simp only[if_true]at pq
  obtain⟨e,k1,k2,k3,k4⟩:=pq
  have he:[.c8 0,.all 1]=e:=by injection k1 with k1;exact(List.cons.inj k1).1
  subst he
  obtain⟨⟨p,hp,S0⟩,⟨x,hx,uE⟩,_⟩:=k4
  have my:arr= #[p,x]:=by
   apply cK
   intro i
   match i with
   |0=>simpa using hp
   |1=>simpa using hx
   |n+2=>rw[cL (by omega),cL (by simp)]
  subst my
  simp only[cM,bG]at g1⊢
  have cr:row.sz=2:=by rw[uA]at g1;rw[<-Option.some.inj g1]
  have lt0:=hm.lt uA gV
  obtain⟨Fj,q1,q2,hv⟩:=uE
  have NL:Fj=⟨false,u,1,.ints .u8 l⟩:=by rw[Ax]at q1;exact(Option.some.inj q1).symm
  subst NL
  have fin:∀(g:Option Nat) (e:Ending) (w':World),wO w g (bytesOf l) e w'->(∀k,g=some k->¬c.V 1/\k=c.ρ 1)->(∀c':Ctx,(¬c.V 1->c'.I (c.ρ 1))->c'.base=0->cz c' w' (.sl 1 (.ints .u8 l) false) x)->
   ∃v c',e=.returned v/\jM (List.range' 1 1) c w c' w'/\(∀r,c'.R r=([⟨true,ty,2,.gen [[.c8 0,.sl 1 (.ints .u8 l) false]]⟩]:List Row)[r]?)/\Rep c' w' (.str (bytesOf l)) v:=by
   intro g e w' ⟨he,s1,s2,s3,s4,s5,s6⟩ hg jL
   have hI:∀b,c.I b->w'.heap[b]?=w.heap[b]? :=λb hb=>s5 b (hm.fk b hb).1 λe=>by
    obtain⟨nv,e2⟩:=hg b e
    exact(hm.fk b hb).2 1 _ Ax nv e2.symm
   have h00:w'.heap[c.ρ 0]?=w.heap[c.ρ 0]? :=s5 _ lt0 λe=>by
    obtain⟨nv,e2⟩:=hg _ e
    exact absurd (hm.inj 0 1 _ _ uA Ax gV nv e2) (by decide)
   refine⟨_,{c with R:=λr=>([⟨true,ty,2,.gen [[.c8 0,.sl 1 (.ints .u8 l) false]]⟩]:List Row)[r]?,I:=λb=>c.I b\/(¬c.V 1/\b=c.ρ 1)},he,⟨⟨?_,?_,?_,?_,hm.kX.mono λb hb=>⟨.inl hb,hI b hb⟩⟩,⟨rfl,aO _,λb hb=>⟨.inl hb,hI b hb⟩,?_⟩,?_,?_,?_⟩,λr=>rfl,rfl⟩
   ·intro r row hr
    match r with
    |0 =>
     have hr:(⟨true,ty,2,.gen [[.c8 0,.sl 1 (.ints .u8 l) false]]⟩:Row)=row:=by simpa using hr
     subst hr
     refine .inr ⟨gV,#[p,x],by rw[h00];exact hh,Nat.two_pos,?_⟩
     simp only[if_true]
     refine⟨_,rfl,rfl,rfl,⟨p,rfl,?_⟩,⟨x,rfl,jL _ (λnv=>.inr ⟨nv,rfl⟩) hb⟩,trivial⟩
     rcases S0 with hp|⟨aq,r1,r2,r3,hp⟩
     ·exact .inl hp
     ·refine .inr ⟨⟨true,ty,2,.gen [[.c8 0,.sl 1 (.ints .u8 l) false]]⟩,rfl,gV,Nat.one_pos,?_⟩
      rw[hp];simp
    |r+1=>simp at hr
   ·intro r s x y hr hs v1 v2 he
    match r,s with
    |0,0=>rfl
    |r+1,_=>simp at hr
    |0,s+1=>simp at hs
   ·intro b hb
    rcases hb with hb|⟨nv,rfl⟩
    ·refine⟨bI (hm.fk b hb).1 s4,λr x hr v=>?_⟩
     match r with
     |0=>exact(hm.fk b hb).2 0 _ uA gV
     |r+1=>simp at hr
    ·refine⟨bI (hm.lt Ax nv) s4,λr x hr v=>?_⟩
     match r with
     |0=>exactλe=>absurd (hm.inj 0 1 _ _ uA Ax gV nv e) (by decide)
     |r+1=>simp at hr
   ·exact bH hm.top s4
   ·intro r row hr
    obtain⟨hk,kd,nB,rfl⟩:=om hr
    match r with
    |0=>
     have:(⟨true,ty,2,.gen [[.c8 0,.all 1]]⟩:Row)=kd:=by rw[uA]at nB;exact Option.some.inj nB
     subst this
     exact⟨_,rfl,rfl,rfl,rfl,rfl,rfl,Iff.rfl,λ_ a ha=>⟨a,by show w'.heap[c.ρ 0]?=_;rw[h00];exact ha,rfl⟩⟩
    |1=>simp[cf]at hk
    |r+2=>rw[hR]at nB;simp at nB
   ·exact⟨s1,s2,s3,s4,λb hb hn=>s5 b hb λe=>by
     obtain⟨nv,e2⟩:=hg b e
     exact hn ⟨1,_,Ax,nv,e2.symm⟩⟩
   ·intro b hb
    rcases hb with hb|⟨nv,rfl⟩
    ·exact .inl hb
    ·exact .inr (.inl ⟨1,_,by simp[cf],Ax,nv,rfl⟩)
   ·intro r aq hr hv
    match r with
    |0=>exact .inl ⟨⟨_,uA⟩,gV,rfl⟩
    |r+1=>simp at hr
  rcases hv with⟨hV,a,rfl,AJ⟩|⟨hV,cap,cur,rfl,c1,c2,c3,c4⟩
  ·have hl:l=[]:=by have:=(hm.oi Ax hV).2.1;simpa[ai.l]using this
   subst hl
   refine(h0 _ w p a (AJ.mono hm.top) hh).mono λe w' hp=>fin none e w' hp (λk e=>by cases e) λc' hi hb=>?_
   exact⟨a,0,rfl,aO _,.inl rfl⟩
  ·obtain⟨NM,jJ,_,hE⟩:=hm.real Ax hV
   simp only at jJ c1 c3 c4
   rw[c3]at jJ;cases jJ
   simp only[Bool.false_eq_true,if_false]at hE
   have hl:(ai.ints IntKind.u8 l).l.length=l.length:=by simp[ai.l]
   rw[hl]at c1
   simp only[Nat.mul_one]at c4
   subst c4
   have hh':w.heap[c.ρ 0]?=some (.cells #[p,.slice (some ⟨c.ρ 1,0,none⟩) l.length cur.size] ty (0,0)):=by rw[<-hl];exact hh
   have mz:=Z9f hE
   simp only[aX]at mz
   refine(h1 _ _ w p cur l hh' c3 c1 c2 mz).mono λe w' hp=>fin (some (c.ρ 1)) e w' hp (λk e=>⟨hV,(Option.some.inj e).symm⟩) λc' hi hb=>?_
   obtain⟨WR,hz⟩:=hp.2.2.2.2.2.2 _ _ _ _ rfl c3
   refine⟨some ⟨c.ρ 1,0,none⟩,cur.size,by simp only[hl],by rw[hl];exact c1,.inr ⟨c.ρ 1,0,cur,u,WR,rfl,hi hV,(λe=>by cases e),hz,?_⟩⟩
   have pl:∀e∈(ai.ints IntKind.u8 l).l,∀d∈e,lg d:=by
    intro e he d hd
    simp only[ai.l,List.mem_map]at he
    obtain⟨n,_,rfl⟩:=he
    simp only[List.mem_singleton]at hd
    subst hd;trivial
   exact Z4o pl hE
end Go.GD
namespace Go.GD
open Go Go.Proofs Go.Shelf Go.RowKit
variable {P:Program} {ρ:Ren}
set_option maxHeartbeats 1000000 in
set_option maxRecDepth 100000 in
theorem qF(L:Lays.n240 P ρ)(X:Builder.X72 P ρ){ty:TypeId}(hl:liesAt P P.depth ty (2/P.cellsOf ty) 0 (ρ.t 72) 1=true)(b:Nat)(w:World)(x:Value)(hh:w.heap[b]?=some (.cells #[.pointer none,x] ty (0,0))):
 Calls P (ρ.f 240) #[.pointer (some ⟨b,0,none⟩)] w λe w'=>e=.returned (.tuple #[])/\w'=w.setCell ⟨b,0,none⟩ (.pointer (some ⟨b,0,none⟩)):=by
 have h0:w.cell? ⟨b,0,none⟩=some (.pointer none):=by rw[Lib.cell_of_heap hh];rfl
 have Fl:w.shape? b=some (ty,2):=by simp[World.shape?,hh]
 have DW:w.frozen? ⟨b,0,none⟩=false:=by simp[World.frozen?,hh]
 obtain⟨j,hj,hjs⟩:=Option.map_eq_some_iff.1 X.sizeBuilder
 have u72:=run_underlying L.t72
 have t70:=L.t70;have a70:=L.a70;have z70:=L.z70;have u70:=run_underlying L.t70
 go_enter L.f240,Body.n240_ntmps ρ
 go_wp2
 rw[Lib.run_to_unsafe w ⟨b,0,none⟩ L.t70 L.t164 hj (by rw[hjs];decide) Fl (Nat.zero_lt_succ 1)]
 simp only[Result.andThen]
 rw[Oper.upon_value]
 go_wp2
 rw[run_callFunc_extern L.f276 (by kernel_rfl) (by kernel_rfl) (by kernel_rfl) (e:=Extern.AbiNoEscape.same) (by kernel_rfl)]
 rw[Lib.run_noEscape]
 simp only[Result.andThen]
 rw[Oper.upon_value]
 go_wp2
 rw[Lib.run_from_unsafe w ⟨b,0,none⟩ L.t164 L.t70 hj Fl hl]
 simp only[Result.andThen]
 rw[Oper.upon_value]
 go_wp2
 go_end0
 exact⟨rfl,rfl⟩
theorem v8(L:Lays.n240 P ρ)(X:Builder.X72 P ρ){ty:TypeId}(b:Nat)(w:World)(x:Value)(hh:w.heap[b]?=some (.cells #[.pointer (some ⟨b,0,none⟩),x] ty (0,0))):
 Calls P (ρ.f 240) #[.pointer (some ⟨b,0,none⟩)] w λe w'=>e=.returned (.tuple #[])/\w'=w:=
 Any.Builder_copyCheck_used L X b w (by rw[Lib.cell_of_heap hh];rfl)
theorem y9(w:World):wO w none [] (.returned (.string ⟨#[]⟩)) w.drew:=
 ⟨rfl,rfl,rfl,rfl,aO _,λ_ _ _=>rfl,λk arr t fz e=>by cases e⟩
theorem qaa{w:World}{e:Ending}{w':World}(g:Nat)(h:wO w none [] e w')(hg:∀arr t fz,w.heap[g]?=some (.cells arr t fz)->g<w.heap.size):wO w (some g) [] e w':=
 ⟨h.1,h.2.1,h.2.2.1,h.2.2.2.1,h.2.2.2.2.1,λk hk _=>h.2.2.2.2.2.1 k hk (by simp),λk arr t fz e ha=>by cases e;exact⟨fz,by rw[h.2.2.2.2.2.1 g (hg _ _ _ ha) (by simp)];exact ha⟩⟩
theorem xF(w:World)(o:Obj):wO w none [] (.returned (.string ⟨#[]⟩)) (w.drew.alloc o):=
 ⟨rfl,rfl,rfl,rfl,by show w.heap.size<=(w.heap.push o).size;simp,λk hk _=>by show(w.heap.push o)[k]?=w.heap[k]?;rw[Array.getElem?_push,if_neg (by omega)],λk arr t fz e=>by cases e⟩
theorem xe(w:World)(g n:Nat)(s:List UInt8):wO w (some g) s (.returned (.string ⟨s.toArray⟩)) (w.drew.freeze ⟨g,0,none⟩ n):=by
 unfold World.freeze
 split
 ·exact⟨rfl,rfl,rfl,rfl,aO _,λ_ _ _=>rfl,λk arr t fz e ha=>⟨fz,ha⟩⟩
 ·refine⟨rfl,rfl,rfl,rfl,?_,λk hk gl=>?_,λk arr t fz e ha=>?_⟩
  ·show w.heap.size<=(w.heap.modify g _).size;simp
  ·show(w.heap.modify g _)[k]?=w.heap[k]?
   rw[cN,if_neg (λe=>gl (by rw[e]))]
  ·cases e
   refine⟨if fz.1==fz.2 then(0,0+n)else(min fz.1 0,max fz.2 (0+n)),?_⟩
   show(w.heap.modify g _)[g]?=_
   rw[cN,if_pos rfl,ha];rfl
theorem Zjn{W:World}(ts:Array TypeId)(ty e:TypeId)(hp:P.underlying ty=some (.pointer e))(a:Addr)(n:Nat)(ha:a.block<W.heap.size):
 ∃q W',(Builtin.unsafeSliceData_ ts ty #[.slice (some a) n 0]).run P W=.ok (.pointer q) W'/\(W'=W\/∃o,W'=W.alloc o):=by
 have IS:Builtin.unsafeSliceData_ ts ty #[.slice (some a) n 0]=
  (do
   if(0:Nat)≠0 then pure (.pointer (some a))
   else if(<-viewAt a.block).isSome then pure (.pointer (some a))
   else pure (.pointer (some ⟨<-newObj (.view a (<-elemOf ty)),0,none⟩))):=rfl
 rw[IS]
 cases Fl:W.shape? a.block with
 |some sh=>exact⟨some ⟨W.heap.size,0,none⟩,W.alloc (.view a e),by simp[viewAt,Fl,elemOf,run_underlying hp],.inr ⟨_,rfl⟩⟩
 |none=>
  have hx:W.heap[a.block]?=some W.heap[a.block]:=Array.getElem?_eq_getElem ha
  cases ho:W.heap[a.block]with
  |cells c t f=>rw[ho]at hx;simp[World.shape?,hx]at Fl
  |view b t=>rw[ho]at hx;exact⟨some a,W,by simp[viewAt,Fl,hx,getObj,Sem.run],.inl rfl⟩
  |_=>rw[ho]at hx;exact⟨some ⟨W.heap.size,0,none⟩,W.alloc (.view a e),by simp[viewAt,Fl,hx,getObj,Sem.run,elemOf,run_underlying hp],.inr ⟨_,rfl⟩⟩
theorem Qzh{w:World}:∀(l:List Int) (a:Addr) (acc:ByteArray),(∀j x,l[j]?=some x->w.cell? (a.add j)=some (.int .u8 x))->
 (loadBytes a acc l.length).run P w=.ok ⟨acc.data++(bytesOf l).toArray⟩ w
 |[],a,acc,_=>by simp[loadBytes,bytesOf]
 |x ::l,a,acc,h=>by
  have h0:w.cell? a=some (.int .u8 x):=by
   have:=h 0 x rfl
   simpa[Addr.add]using this
  have ih:=Qzh l (a.add 1) (acc.push (x.toNat.toUInt8)) (λj y hy=>by
   have:=h (j+1) y (by simpa using hy)
   have e:(a.add 1).add j=a.add (j+1):=by
    unfold Addr.add
    by_cases hj:j=0
    ·subst hj;simp
    ·simp[hj];omega
   rw[e];exact this)
  simp only[List.length_cons,loadBytes,Sem.run_bind,run_load,h0,Result.andThen]
  rw[ih]
  congr 1
  apply ByteArray.ext
  simp[ByteArray.push,bytesOf]
theorem Zq0{w:World}(pt it ty e:TypeId)(hp:P.underlying pt=some (.pointer e))(hc:P.cellsOf e=1)(g cells:Nat)(Fl:w.shape? g=some (e,cells))(l:List Int)(h0:l≠[])(hn:l.length<=cells)(h63:l.length<=9223372036854775807)
 (mz:∀j x,l[j]?=some x->w.cell? ((⟨g,0,none⟩:Addr).add j)=some (.int .u8 x)):
 (Builtin.unsafeString_ #[pt,it] ty #[.pointer (some ⟨g,0,none⟩),.int .i64 l.length]).run P w=.ok (.string ⟨(bytesOf l).toArray⟩) (w.freeze ⟨g,0,none⟩ l.length):=by
 have hl:l.length≠0:=by simpa using h0
 have NN:=Qzh (P:=P) l ⟨g,0,none⟩ .empty mz
 have NO:=Lib.liesAt_bytes (P:=P) hc (cells/P.cellsOf e) l.length (by rw[hc];simpa using hn)
 have IT:¬(9223372036854775807:Int)<(l.length:Int):=by omega
 have IS:Builtin.unsafeString_ #[pt,it] ty #[.pointer (some ⟨g,0,none⟩),.int .i64 l.length]=
  (do
   let n<-asInt (.int .i64 l.length)
   if n<0 then runtimePanic (.error "unsafe.String: len out of range")
   if n>IntKind.i64.max then unsupported (.unsafePointer "String: a length above the largest int")
   if n=0 then pure (.string .empty)
   else if<-variablesAt ⟨g,0,none⟩ (<-elemOf pt) n.toNat then do
    let s<-loadBytes ⟨g,0,none⟩ .empty n.toNat
    freeze ⟨g,0,none⟩ n.toNat
    pure (.string s)
   else unsupported (.unsafePointer "String: not so many bytes at ptr")):=rfl
 rw[IS]
 have Cm:IntKind.i64.max=9223372036854775807:=rfl
 have WS:¬(l.length:Int)<0:=by omega
 simp[asInt,asIntOf,Cm,IT,WS,hl,variablesAt,Fl,elemOf,run_underlying hp,NO,NN]
set_option maxHeartbeats 2000000 in
set_option maxRecDepth 100000 in
theorem ze(L:Lays.n169 P ρ)(X:Builder.Extra P ρ)(b:Nat)(w W1 W2:World)(a q:Option Addr)(n cap:Nat)(s:ByteArray)(c1:w.drew.cell? ⟨b,1,none⟩=some (.slice a n cap))(c2:W1.cell? ⟨b,1,none⟩=some (.slice a n cap))
 (hSD:(Builtin.unsafeSliceData_ #[(ρ.t 37)] (ρ.t 127) #[.slice a n cap]).run P w.drew=.ok (.pointer q) W1) (hUS:(Builtin.unsafeString_ #[(ρ.t 127),(ρ.t 3)] (ρ.t 9) #[.pointer q,.int .i64 n]).run P W1=.ok (.string s) W2):
 Calls P (ρ.f 169) #[.pointer (some ⟨b,0,none⟩)] w λe w'=>e=.returned (.string s)/\w'=W2:=by
 have mixed:=L.mixed
 have u72:=run_underlying L.t72
 have t37:=L.t37;have a37:=L.a37;have z37:=L.z37;have u37:=run_underlying L.t37
 go_enter L.f169,Body.n169_ntmps ρ
 go_wp2
 go_region_o
 all_goals(go_wp2;go_ret;exact⟨rfl,rfl⟩)
theorem WT(L:Lays.n169 P ρ)(X:Builder.Extra P ρ){ty:TypeId}(b:Nat)(w W1:World)(p:Value)(a q:Option Addr)(cap:Nat)(AK:w.heap[b]?=some (.cells #[p,.slice a 0 cap] ty (0,0)))
 (hSD:(Builtin.unsafeSliceData_ #[(ρ.t 37)] (ρ.t 127) #[.slice a 0 cap]).run P w.drew=.ok (.pointer q) W1) (hW:W1=w.drew\/∃o,W1=w.drew.alloc o):
 Calls P (ρ.f 169) #[.pointer (some ⟨b,0,none⟩)] w (wO w none []):=by
 have cq:b<w.heap.size:=(Array.getElem?_eq_some_iff.1 AK).1
 have c1:w.drew.cell? ⟨b,1,none⟩=some (.slice a 0 cap):=by
  have:w.drew.heap[b]?=some (.cells #[p,.slice a 0 cap] ty (0,0)):=AK
  rw[Lib.cell_of_heap this];rfl
 have c2:W1.cell? ⟨b,1,none⟩=some (.slice a 0 cap):=by
  rcases hW with rfl|⟨o,rfl⟩
  ·exact c1
  ·have:(w.drew.alloc o).heap[b]?=_:=(Lib.alloc_old w.drew _ b cq).trans AK
   rw[Lib.cell_of_heap this];rfl
 refine(ze L X b w W1 W1 a q 0 cap .empty c1 c2 hSD (Any.unsafeString_none L X W1 q)).mono ?_
 rintro e w' ⟨rfl,rfl⟩
 rcases hW with rfl|⟨o,rfl⟩
 ·exact y9 w
 ·exact xF w o
theorem Zin(L:Lays.n169 P ρ)(X:Builder.Extra P ρ){ty:TypeId}(b:Nat)(w:World)(p:Value)(a:Option Addr)(ha:AI w.heap.size a)(AK:w.heap[b]?=some (.cells #[p,.slice a 0 0] ty (0,0))):
 Calls P (ρ.f 169) #[.pointer (some ⟨b,0,none⟩)] w (wO w none []):=by
 cases a with
 |none=>exact WT L X b w w.drew p none none 0 AK rfl (.inl rfl)
 |some a=>
  obtain⟨q,W,h1,h2⟩:=Zjn (P:=P) (W:=w.drew) #[(ρ.t 37)] (ρ.t 127) (ρ.t 5) L.t127 a 0 (ha a rfl)
  exact WT L X b w W p (some a) q 0 AK h1 h2
theorem zF(L:Lays.n169 P ρ)(X:Builder.Extra P ρ){ty:TypeId}(b g:Nat)(w:World)(p:Value)(cur:Array Value)(l:List Int)(Br:l≠[])(AK:w.heap[b]?=some (.cells #[p,.slice (some ⟨g,0,none⟩) l.length cur.size] ty (0,0)))
 (hg:w.heap[g]?=some (.cells cur (ρ.t 5) (0,0))) (hn:l.length<=cur.size) (hm:cur.size<=maxLen) (hc:∀(j:Nat) (x:Int),l[j]?=some x->cur[j]?=some (Value.int .u8 x)):
 Calls P (ρ.f 169) #[.pointer (some ⟨b,0,none⟩)] w (wO w (some g) (bytesOf l)):=by
 have gl:l.length≠0:=by simpa using Br
 have S1:w.drew.heap[g]?=some (.cells cur (ρ.t 5) (0,0)):=hg
 have c1:w.drew.cell? ⟨b,1,none⟩=some (.slice (some ⟨g,0,none⟩) l.length cur.size):=by
  have:w.drew.heap[b]?=some (.cells #[p,.slice (some ⟨g,0,none⟩) l.length cur.size] ty (0,0)):=AK
  rw[Lib.cell_of_heap this];rfl
 refine(ze L X b w w.drew _ _ _ _ _ _ c1 c1 (Lib.run_unsafeSliceData_row _ _ _ _ _ _ (by omega)) (Zq0 (ρ.t 127) (ρ.t 3) (ρ.t 9) (ρ.t 5) L.t127 X.cellsByte g cur.size (by simp[World.shape?,S1]) l Br hn (by unfold maxLen at hm;omega) λj x hx=>?_)).mono ?_
 ·rw[Addr.add_lit,aX,Lib.cell_of_heap S1]
  exact hc j x hx
 ·rintro e w' ⟨rfl,rfl⟩
  exact xe w g l.length (bytesOf l)
theorem zaa(L:Lays.n169 P ρ)(X:Builder.Extra P ρ){ty:TypeId}(b g:Nat)(w:World)(p:Value)(cur:Array Value)(l:List Int)(AK:w.heap[b]?=some (.cells #[p,.slice (some ⟨g,0,none⟩) l.length cur.size] ty (0,0)))
 (hg:w.heap[g]?=some (.cells cur (ρ.t 5) (0,0))) (hn:l.length<=cur.size) (hm:cur.size<=maxLen) (hc:∀(j:Nat) (x:Int),l[j]?=some x->cur[j]?=some (Value.int .u8 x)):
 Calls P (ρ.f 169) #[.pointer (some ⟨b,0,none⟩)] w (wO w (some g) (bytesOf l)):=by
 by_cases Br:l=[]
 ·subst Br
  have cq:g<w.heap.size:=(Array.getElem?_eq_some_iff.1 hg).1
  have hs:∀e w',wO w none [] e w'->wO w (some g) (bytesOf []) e w':=λe w' h=>qaa g h λ_ _ _ _=>cq
  by_cases h0:cur.size=0
  ·rw[h0]at AK
   exact(Zin L X b w p (some ⟨g,0,none⟩) (λx e=>by cases e;exact cq) AK).mono hs
  ·exact(WT L X b w w.drew p (some ⟨g,0,none⟩) (some ⟨g,0,none⟩) cur.size AK (Lib.run_unsafeSliceData_row _ _ _ _ _ _ h0) (.inl rfl)).mono hs
 ·exact zF L X b g w p cur l Br AK hg hn hm hc
theorem yF(L:Lays.n240 P ρ)(X:Builder.X72 P ρ){ty u:TypeId}(hl:liesAt P P.depth ty (2/P.cellsOf ty) 0 (ρ.t 72) 1=true)(E:ai):
 kq P (ρ.f 240) [.ptr 0 0 0] [⟨true,ty,2,.gen [[.c8 0,.all 1]]⟩,⟨false,u,1,E⟩] (.dt []) [⟨true,ty,2,.gen [[.c8 0,.all 1]]⟩,⟨false,u,1,E⟩]:=
 Zio (λb w x h=>qF L X hl b w x h) (λb w x h=>v8 L X b w x h) E
theorem ye(hf:ρ.f 169<YB)(L:Lays.n169 P ρ)(X:Builder.Extra P ρ){ty:TypeId}(l:List Int):
 sN P (ρ.f 169) 1 [.ptr 0 0 0] [⟨true,ty,2,.gen [[.c8 0,.all 1]]⟩,⟨false,ρ.t 5,1,.ints .u8 l⟩] (.str (bytesOf l)) [⟨true,ty,2,.gen [[.c8 0,.sl 1 (.ints .u8 l) false]]⟩]:=
 qe hf (λb w p a ha h=>Zin L X b w p a ha h) (λb g w p cur l h1 h2 h3 h4 h5=>zaa L X b g w p cur l h1 h2 h3 h4 h5) l
end Go.GD
namespace Go.GD
open Go
theorem kq.Cn{P:Program}{f:FuncId}{args:List D}{res:D}(h:∀(c:Ctx) (w:World) (vs:List Value),tD c.I w->kr c w args vs->Calls P f vs.toArray w λe w'=>∃v,e=.returned v/\(∀c',Rep c' w' res v)/\RowKit.Below w.heap.size w w'):kq P f args [] res []:=by
 intro c w vs hm hb hR ha
 refine(h c w vs hm.kX ha).mono λe w' hq=>?_
 obtain⟨v,he,hr,h1,h2,h3,h4,h5⟩:=hq
 have GA:∀r x,c.R r=some x->False:=λr x hx=>by rw[hR]at hx;simp at hx
 refine⟨v,c,he,⟨⟨λr x hx=>(GA r x hx).elim,λr s x y hx=>(GA r x hx).elim,λb iL=>⟨bI (hm.fk b iL).1 h4,λr x hx=>(GA r x hx).elim⟩,bH hm.top h4,hm.kX.mono λb hb=>⟨hb,h5 b (hm.fk b hb).1⟩⟩,⟨rfl,aO _,λb iL=>⟨iL,h5 b (hm.fk b iL).1⟩,λr x hx=>(GA r x hx).elim⟩,⟨h1,h2,h3,h4,λb tI _=>h5 b tI⟩,λb iL=>.inl iL,λr x hx=>(GA r x hx).elim⟩,hR,hr c⟩
theorem kq.Co{P:Program}{f:FuncId}{args:List D}{res:D}(h:∀(c:Ctx) (w:World) (vs:List Value),kr c w args vs->Calls P f vs.toArray w λe w'=>∃v,e=.returned v/\(∀c',Rep c' w' res v)/\RowKit.Below w.heap.size w w'):kq P f args [] res []:=
 .Cn λc w vs _ ha=>h c w vs ha
theorem qf{P:Program}{f:FuncId}(H:∀(s:ByteArray) (c:Nat) (w:World),c<=9223372036854775807->s.size*c<=140737488355328->Calls P f #[.string s,.int .i64 c] w λe w'=>e=.returned (.string ⟨(Lib.repeatL s.data.toList c).toArray⟩)/\RowKit.Below w.heap.size w w')
 {s:List UInt8} {n:Int} (h0:0<=n) (h1:n<=9223372036854775807) (h2:s.length*n.toNat<=140737488355328):kq P f [.str s,.int .i64 n] [] (.str (Lib.repeatL s n.toNat)) []:=by
 refine kq.Co λc w vs ha=>?_
 match vs,ha with
 |[u,v],ha=>
  have hu:u=.string ⟨s.toArray⟩:=ha.1
  have hv:v=.int .i64 n:=ha.2.1
  subst hu;subst hv
  have hn:((n.toNat:Nat):Int)=n:=Int.toNat_of_nonneg h0
  have:=H ⟨s.toArray⟩ n.toNat w (by omega) (by simpa[ByteArray.size]using h2)
  rw[hn]at this
  exact this.mono λe w' ⟨he,hb⟩=>⟨_,he,λc'=>by simp[Rep,VRep,cz],hb⟩
theorem tD.var{I:ag}{w:World}(h:tD I w){P:Program}{name:String}{g:Nat}{k:IntKind}{l:List Int}(hg:P.globalNamed name=some g)(hm:(g,k,l)∈Ku):Lib.TabIs P w name k l:=by
 obtain⟨_,ty,fz,h2⟩:=h _ hm
 unfold Lib.TabIs World.var?
 rw[hg]
 simp only[Option.bind_some,h2]
theorem tD.at{I:ag}{w:World}(h:tD I w){g:Nat}{l:List Nat}(hm:(g,IntKind.u8,l.map λ(n:Nat)=>(n:Int))∈Ku):Proofs.TabAt g l w:=by
 obtain⟨_,ty,fz,h2⟩:=h _ hm
 intro j hj
 simp only[World.cell?,h2]
 simp[hj]
theorem xaa{P:Program}{f:FuncId}{g:Nat}(H:∀(n:Int),-9223372036854775808<=n->n<=9223372036854775807->∀w:World,Lib.TabIs P w "internal/strconv.uint64pow10" .u64 Lib.pow10Tab->Calls P f #[.int .i64 n] w λe w'=>e=.returned (.string ⟨(Lib.itoa n).toArray⟩)/\∃k os,w'=Sort.grow (w.drewN k) os)(hg:P.globalNamed "internal/strconv.uint64pow10" =some g)(hm:(g,IntKind.u64,Lib.pow10Tab)∈Ku){n:Int}(h0:0<=n)(h1:n<=9223372036854775807):kq P f [.int .i64 n] [] (.str (Lib.decDigits n.toNat)) []:=by
 refine kq.Cn λc w vs ht ha=>?_
 match vs,ha with
 |[v],ha=>
  have hv:v=.int .i64 n:=ha.1
  subst hv
  refine(H n (by omega) h1 w (ht.var hg hm)).mono λe w' ⟨he,k,os,hb⟩=>⟨_,he,λc'=>?_,?_⟩
  ·rw[Lib.itoa,if_neg (by omega)]
   simp[Rep,VRep,cz]
  ·subst hb
   refine⟨rfl,rfl,rfl,?_,λb hb=>?_⟩
   ·show w.heap.size<=(w.heap++os).size
    simp
   ·show(w.heap++os)[b]?=_
    rw[Array.getElem?_append_left (show b<w.heap.size from hb)]
