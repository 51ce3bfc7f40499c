import Derived.Shelf.Strings.Builder1
import Derived.Test.YthjfindbamdacaaGreatDoorAuditScriptsFd
import Derived.Test.YthjfindbamdacaaGreatDoorAuditScriptsShelf
import Derived.Test.YthjfindbamdacaaGreatDoorAuditScriptsBase
import Derived.Shelf.Spec.SlicesGrow
import Derived.Lib.ItoaNum
import Derived.Lib.ItoaMem
open Nat renaming add_zero->bG,zero_mul->cM,le_refl->aO,lt_of_lt_of_le->bI,le_trans->bH,zero_add->aX
open Array renaming ext_getElem?->cK,getElem?_eq_none->cL,getElem?_modify->cN
set_option linter.all false
namespace Go.GD
open Go
theorem Z9e{I:ae}{w:World}{k:IntKind}:∀{l:List Int} {arr:Array Value} {off:Nat},iJ I w (ao.ints k l).l arr off 1->∀j x,l[j]?=some x->arr[off+j]?=some (.int k x)
 |[],_,_,_,j,x,h=>by simp at h
 |n ::l,arr,off,h,j,x,hx=>by
  have h':=oi.1 h
  obtain⟨_,h1,h2⟩:=h'
  obtain⟨⟨v,hv,hp⟩,_⟩:=Aq.1 h1
  cases j with
  |zero=>
   have e:n=x:=by simpa using hx
   rw[bG,hv,rP.1 hp,e]
  |succ j=>
   have:=Z9e (l:=l) h2 j x (by simpa using hx)
   rw[show off+(j+1)=off+1+j by omega];exact this
theorem vd{I I':ae}{w w':World}{d:D}{v:Value}(hs:kR d)(h:fy I w d v):fy I' w' d v:=by
 cases h<;>first|exact hs.elim|constructor
theorem Z2t{I I':ae}{w w':World}:∀{cs:List D} {arr:Array Value} {off:Nat},(∀d∈cs,kR d)->nQ I w cs arr off->nQ I' w' cs arr off
 |[],_,_,_,_=>BP.2 trivial
 |d::cs,arr,off,hs,h=>by
  obtain⟨⟨v,hv,hp⟩,hr⟩:=Aq.1 h
  exact Aq.2 ⟨⟨v,hv,vd (hs d (by simp)) hp⟩,Z2t (λe he=>hs e (by simp[he])) hr⟩
theorem Z2l{I I':ae}{w w':World}:∀{es:List (List D)} {arr:Array Value} {off sz:Nat},(∀e∈es,∀d∈e,kR d)->iJ I w es arr off sz->iJ I' w' es arr off sz
 |[],_,_,_,_,_=>pN.2 trivial
 |e::es,arr,off,sz,hs,h=>by
  obtain⟨h1,h2,h3⟩:=oi.1 h
  exact oi.2 ⟨h1,Z2t (hs e (by simp)) h2,Z2l (λf hf=>hs f (by simp[hf])) h3⟩
theorem Zgo{P:Program}{f:FuncId}{ty u:TypeId}
 (h0:∀(b:Nat) (w:World) (x:Value),w.heap[b]?=some (.cells #[.pointer none,x] ty (0,0))->Calls P f #[.pointer (some ⟨b,0,none⟩)] w λe w'=>e=.returned (.tuple #[])/\w'=w.setCell ⟨b,0,none⟩ (.pointer (some ⟨b,0,none⟩)))
 (h1:∀(b:Nat) (w:World) (x:Value),w.heap[b]?=some (.cells #[.pointer (some ⟨b,0,none⟩),x] ty (0,0))->Calls P f #[.pointer (some ⟨b,0,none⟩)] w λe w'=>e=.returned (.tuple #[])/\w'=w)
 (E:ao):j9 P f [.ptr 0 0 0] [⟨true,ty,2,.gen [[.c8 0,.all 1]]⟩,⟨false,u,1,E⟩] (.dt []) [⟨true,ty,2,.gen [[.c8 0,.all 1]]⟩,⟨false,u,1,E⟩]:=by
 intro c w vs hm hb hR ha
 match vs,ha with
 |[v],ha=>
  obtain⟨⟨row,g1,gV,g2,rfl⟩,_⟩:=ha
  have rS:c.R 0=some ⟨true,ty,2,.gen [[.c8 0,.all 1]]⟩:=by rw[hR];rfl
  obtain⟨arr,hh,_,pn⟩:=hm.real rS gV
  simp only[if_true]at pn
  obtain⟨e,k1,k2,k3,k4⟩:=pn
  have he:[.c8 0,.all 1]=e:=by injection k1 with k1;exact(List.cons.inj k1).1
  subst he
  obtain⟨⟨p,hp,S4⟩,⟨x,hx,ur⟩,_⟩:=k4
  have mr:arr= #[p,x]:=by
   apply cK
   intro i
   match i with
   |0=>simpa using hp
   |1=>simpa using hx
   |n+2=>rw[cL (by omega),cL (by simp)]
  subst mr
  simp only[cM,bG]at S4 g1⊢
  have cb:row.sz=2:=by rw[rS]at g1;rw[<-Option.some.inj g1]
  rcases S4 with rfl|⟨ak,r1,r2,r3,rfl⟩
  ·refine(h0 _ w x hh).mono ?_
   rintro e w' ⟨rfl,rfl⟩
   have ri:w.setCell ⟨c.ρ 0,0,none⟩ (.pointer (some ⟨c.ρ 0,0,none⟩))=w.setRow (c.ρ 0) #[.pointer (some ⟨c.ρ 0,0,none⟩),x]:=by
    rw[setCell_eq_setRow w (c.ρ 0) 0 _ ty (0,0) _ hh];rfl
   rw[ri]
   obtain⟨hg,hw⟩:=hm.write (ak:=⟨true,ty,2,.gen [[.c8 0,.all 1]]⟩) (arr:= #[.pointer (some ⟨c.ρ 0,0,none⟩),x]) rS gV hh rfl rfl rfl rfl rfl
   have kC:=hw ⟨Nat.two_pos,by
    simp only[if_true]
    exact⟨_,rfl,rfl,rfl,⟨_,rfl,.inr ⟨⟨true,ty,2,.gen [[.c8 0,.all 1]]⟩,by simp[Ctx.jB],gV,Nat.one_pos,rfl⟩⟩,⟨x,rfl,Nr hg ur⟩,trivial⟩⟩
   refine⟨_,c.jB 0 ⟨true,ty,2,.gen [[.c8 0,.all 1]]⟩,rfl,⟨kC,hg,(SG w _ _).mono λb _ e=>⟨0,_,rS,gV,e.symm⟩,λb hb=>.inl hb,λs ov hs hv=>.inl ?_⟩,λr=>?_,[],rfl,trivial⟩
   ·by_cases e:s=0
    ·subst e;exact⟨⟨_,rS⟩,hv,rfl⟩
    ·exact⟨⟨ov,by simpa[Ctx.jB,e]using hs⟩,hv,rfl⟩
   ·simp only[Ctx.jB]
    by_cases e:r=0
    ·subst e;rfl
    ·rw[if_neg e,hR]
  ·simp only[cM,bG]at hh⊢
   refine(h1 _ w x hh).mono ?_
   rintro e w' ⟨rfl,rfl⟩
   exact⟨_,c,rfl,⟨hm,jk.refl _ _,Fr.refl _ _,λb hb=>.inl hb,λr ak hr hv=>.inl ⟨⟨ak,hr⟩,hv,rfl⟩⟩,hR,[],rfl,trivial⟩
def wD(w:World)(g:Option Nat)(s:List UInt8)(e:Ending)(w':World):Prop:=
 e = .returned (.string ⟨s.toArray⟩)/\w'.os=w.os/\w'.tape=w.tape/\w'.output=w.output/\w.heap.size<=w'.heap.size/\(∀k,k<w.heap.size->g≠some k->w'.heap[k]?=w.heap[k]?)/\
  ∀k arr t fz,g=some k->w.heap[k]?=some (.cells arr t fz)->∃WY,w'.heap[k]?=some (.cells arr t WY)
theorem qe{P:Program}{f:FuncId}(hf:f<YB){ty u:TypeId}
 (h0:∀(b:Nat) (w:World) (p:Value) (a:Option Addr),AE w.heap.size a->w.heap[b]?=some (.cells #[p,.slice a 0 0] ty (0,0))->Calls P f #[.pointer (some ⟨b,0,none⟩)] w (wD w none []))
 (h1:∀(b g:Nat) (w:World) (p:Value) (cur:Array Value) (l:List Int),w.heap[b]?=some (.cells #[p,.slice (some ⟨g,0,none⟩) l.length cur.size] ty (0,0))->w.heap[g]?=some (.cells cur u (0,0))->l.length<=cur.size->cur.size<=maxLen->(∀(j:Nat) (x:Int),l[j]?=some x->cur[j]?=some (Value.int .u8 x))->
  Calls P f #[.pointer (some ⟨b,0,none⟩)] w (wD w (some g) (bytesOf l)))
 (l:List Int):sI P f 1 [.ptr 0 0 0] [⟨true,ty,2,.gen [[.c8 0,.all 1]]⟩,⟨false,u,1,.ints .u8 l⟩] (.str (bytesOf l)) [⟨true,ty,2,.gen [[.c8 0,.sl 1 (.ints .u8 l) false]]⟩]:=by
 intro c w vs hm hb hR ha
 refine Gv.real hf ?_
 match vs,ha with
 |[v],ha =>
  obtain⟨⟨row,g1,gV,g2,rfl⟩,_⟩:=ha
  have rS:c.R 0=some ⟨true,ty,2,.gen [[.c8 0,.all 1]]⟩:=by rw[hR];rfl
  have Ar:c.R 1=some ⟨false,u,1,.ints .u8 l⟩:=by rw[hR];rfl
  obtain⟨arr,hh,_,pn⟩:=hm.real rS gV
  simp only[if_true]at pn
  obtain⟨e,k1,k2,k3,k4⟩:=pn
  have he:[.c8 0,.all 1]=e:=by injection k1 with k1;exact(List.cons.inj k1).1
  subst he
  obtain⟨⟨p,hp,S4⟩,⟨x,hx,ur⟩,_⟩:=k4
  have mr:arr= #[p,x]:=by
   apply cK
   intro i
   match i with
   |0=>simpa using hp
   |1=>simpa using hx
   |n+2=>rw[cL (by omega),cL (by simp)]
  subst mr
  simp only[cM,bG]at g1⊢
  have cb:row.sz=2:=by rw[rS]at g1;rw[<-Option.some.inj g1]
  have lt0:=hm.lt rS gV
  obtain⟨EW,q1,q2,hv⟩:=ur
  have NH:EW=⟨false,u,1,.ints .u8 l⟩:=by rw[Ar]at q1;exact(Option.some.inj q1).symm
  subst NH
  have fin:∀(g:Option Nat) (e:Ending) (w':World),wD w g (bytesOf l) e w'->(∀k,g=some k->¬c.V 1/\k=c.ρ 1)->(∀c':Ctx,(¬c.V 1->c'.I (c.ρ 1))->c'.base=0->cv c' w' (.sl 1 (.ints .u8 l) false) x)->
   ∃v c',e=.returned v/\jF (List.range' 1 1) c w c' w'/\(∀r,c'.R r=([⟨true,ty,2,.gen [[.c8 0,.sl 1 (.ints .u8 l) false]]⟩]:List Row)[r]?)/\Rep c' w' (.str (bytesOf l)) v:=by
   intro g e w' ⟨he,s1,s2,s3,s4,s5,s6⟩ hg jE
   have hI:∀b,c.I b->w'.heap[b]?=w.heap[b]? :=λb hb=>s5 b (hm.fu b hb).1 λe=>by
    obtain⟨nv,e2⟩:=hg b e
    exact(hm.fu b hb).2 1 _ Ar nv e2.symm
   have h00:w'.heap[c.ρ 0]?=w.heap[c.ρ 0]? :=s5 _ lt0 λe=>by
    obtain⟨nv,e2⟩:=hg _ e
    exact absurd (hm.inj 0 1 _ _ rS Ar gV nv e2) (by decide)
   refine⟨_,{c with R:=λr=>([⟨true,ty,2,.gen [[.c8 0,.sl 1 (.ints .u8 l) false]]⟩]:List Row)[r]?,I:=λb=>c.I b\/(¬c.V 1/\b=c.ρ 1)},he,⟨⟨?_,?_,?_,?_,hm.kN.mono λb hb=>⟨.inl hb,hI b hb⟩⟩,⟨rfl,aO _,λb hb=>⟨.inl hb,hI b hb⟩,?_⟩,?_,?_,?_⟩,λr=>rfl,rfl⟩
   ·intro r row hr
    match r with
    |0 =>
     have hr:(⟨true,ty,2,.gen [[.c8 0,.sl 1 (.ints .u8 l) false]]⟩:Row)=row:=by simpa using hr
     subst hr
     refine .inr ⟨gV,#[p,x],by rw[h00];exact hh,Nat.two_pos,?_⟩
     simp only[if_true]
     refine⟨_,rfl,rfl,rfl,⟨p,rfl,?_⟩,⟨x,rfl,jE _ (λnv=>.inr ⟨nv,rfl⟩) hb⟩,trivial⟩
     rcases S4 with hp|⟨ak,r1,r2,r3,hp⟩
     ·exact .inl hp
     ·refine .inr ⟨⟨true,ty,2,.gen [[.c8 0,.sl 1 (.ints .u8 l) false]]⟩,rfl,gV,Nat.one_pos,?_⟩
      rw[hp];simp
    |r+1=>simp at hr
   ·intro r s x y hr hs v1 v2 he
    match r,s with
    |0,0=>rfl
    |r+1,_=>simp at hr
    |0,s+1=>simp at hs
   ·intro b hb
    rcases hb with hb|⟨nv,rfl⟩
    ·refine⟨bI (hm.fu b hb).1 s4,λr x hr v=>?_⟩
     match r with
     |0=>exact(hm.fu b hb).2 0 _ rS gV
     |r+1=>simp at hr
    ·refine⟨bI (hm.lt Ar nv) s4,λr x hr v=>?_⟩
     match r with
     |0=>exactλe=>absurd (hm.inj 0 1 _ _ rS Ar gV nv e) (by decide)
     |r+1=>simp at hr
   ·exact bH hm.top s4
   ·intro r row hr
    obtain⟨hk,jY,nB,rfl⟩:=oh hr
    match r with
    |0=>
     have:(⟨true,ty,2,.gen [[.c8 0,.all 1]]⟩:Row)=jY:=by rw[rS]at nB;exact Option.some.inj nB
     subst this
     exact⟨_,rfl,rfl,rfl,rfl,rfl,rfl,Iff.rfl,λ_ a ha=>⟨a,by show w'.heap[c.ρ 0]?=_;rw[h00];exact ha,rfl⟩⟩
    |1=>simp[bw]at hk
    |r+2=>rw[hR]at nB;simp at nB
   ·exact⟨s1,s2,s3,s4,λb hb hn=>s5 b hb λe=>by
     obtain⟨nv,e2⟩:=hg b e
     exact hn ⟨1,_,Ar,nv,e2.symm⟩⟩
   ·intro b hb
    rcases hb with hb|⟨nv,rfl⟩
    ·exact .inl hb
    ·exact .inr (.inl ⟨1,_,by simp[bw],Ar,nv,rfl⟩)
   ·intro r ak hr hv
    match r with
    |0=>exact .inl ⟨⟨_,rS⟩,gV,rfl⟩
    |r+1=>simp at hr
  rcases hv with⟨hV,a,rfl,AF⟩|⟨hV,cap,cur,rfl,c1,c2,c3,c4⟩
  ·have hl:l=[]:=by have:=(hm.oe Ar hV).2.1;simpa[ao.l]using this
   subst hl
   refine(h0 _ w p a (AF.mono hm.top) hh).mono λe w' hp=>fin none e w' hp (λk e=>by cases e) λc' hi hb=>?_
   exact⟨a,0,rfl,aO _,.inl rfl⟩
  ·obtain⟨NI,jC,_,hE⟩:=hm.real Ar hV
   simp only at jC c1 c3 c4
   rw[c3]at jC;cases jC
   simp only[Bool.false_eq_true,if_false]at hE
   have hl:(ao.ints IntKind.u8 l).l.length=l.length:=by simp[ao.l]
   rw[hl]at c1
   simp only[Nat.mul_one]at c4
   subst c4
   have hh':w.heap[c.ρ 0]?=some (.cells #[p,.slice (some ⟨c.ρ 1,0,none⟩) l.length cur.size] ty (0,0)):=by rw[<-hl];exact hh
   have mv:=Z9e hE
   simp only[aX]at mv
   refine(h1 _ _ w p cur l hh' c3 c1 c2 mv).mono λe w' hp=>fin (some (c.ρ 1)) e w' hp (λk e=>⟨hV,(Option.some.inj e).symm⟩) λc' hi hb=>?_
   obtain⟨WY,hz⟩:=hp.2.2.2.2.2.2 _ _ _ _ rfl c3
   refine⟨some ⟨c.ρ 1,0,none⟩,cur.size,by simp only[hl],by rw[hl];exact c1,.inr ⟨c.ρ 1,0,cur,u,WY,rfl,hi hV,(λe=>by cases e),hz,?_⟩⟩
   have pl:∀e∈(ao.ints IntKind.u8 l).l,∀d∈e,kR d:=by
    intro e he d hd
    simp only[ao.l,List.mem_map]at he
    obtain⟨n,_,rfl⟩:=he
    simp only[List.mem_singleton]at hd
    subst hd;trivial
   exact Z2l pl hE
end Go.GD
namespace Go.GD
open Go Go.Proofs Go.Shelf Go.RowKit
variable {P:Program} {ρ:Ren}
set_option maxHeartbeats 1000000 in
set_option maxRecDepth 100000 in
theorem yH(L:Lays.n240 P ρ)(X:Builder.X72 P ρ){ty:TypeId}(hl:liesAt P P.depth ty (2/P.cellsOf ty) 0 (ρ.t 72) 1=true)(b:Nat)(w:World)(x:Value)(hh:w.heap[b]?=some (.cells #[.pointer none,x] ty (0,0))):
 Calls P (ρ.f 240) #[.pointer (some ⟨b,0,none⟩)] w λe w'=>e=.returned (.tuple #[])/\w'=w.setCell ⟨b,0,none⟩ (.pointer (some ⟨b,0,none⟩)):=by
 have h0:w.cell? ⟨b,0,none⟩=some (.pointer none):=by rw[Lib.cell_of_heap hh];rfl
 have EY:w.shape? b=some (ty,2):=by simp[World.shape?,hh]
 have DI:w.frozen? ⟨b,0,none⟩=false:=by simp[World.frozen?,hh]
 obtain⟨j,hj,hjs⟩:=Option.map_eq_some_iff.1 X.sizeBuilder
 have u72:=run_underlying L.t72
 have t70:=L.t70;have a70:=L.a70;have z70:=L.z70;have u70:=run_underlying L.t70
 go_enter L.f240,Body.n240_ntmps ρ
 go_wp2
 rw[Lib.run_to_unsafe w ⟨b,0,none⟩ L.t70 L.t164 hj (by rw[hjs];decide) EY (Nat.zero_lt_succ 1)]
 simp only[Result.andThen]
 rw[Oper.upon_value]
 go_wp2
 rw[run_callFunc_extern L.f276 (by kernel_rfl) (by kernel_rfl) (by kernel_rfl) (e:=Extern.AbiNoEscape.same) (by kernel_rfl)]
 rw[Lib.run_noEscape]
 simp only[Result.andThen]
 rw[Oper.upon_value]
 go_wp2
 rw[Lib.run_from_unsafe w ⟨b,0,none⟩ L.t164 L.t70 hj EY hl]
 simp only[Result.andThen]
 rw[Oper.upon_value]
 go_wp2
 go_end0
 exact⟨rfl,rfl⟩
theorem zah(L:Lays.n240 P ρ)(X:Builder.X72 P ρ){ty:TypeId}(b:Nat)(w:World)(x:Value)(hh:w.heap[b]?=some (.cells #[.pointer (some ⟨b,0,none⟩),x] ty (0,0))):
 Calls P (ρ.f 240) #[.pointer (some ⟨b,0,none⟩)] w λe w'=>e=.returned (.tuple #[])/\w'=w:=
 Any.Builder_copyCheck_used L X b w (by rw[Lib.cell_of_heap hh];rfl)
theorem xah(w:World):wD w none [] (.returned (.string ⟨#[]⟩)) w.drew:=
 ⟨rfl,rfl,rfl,rfl,aO _,λ_ _ _=>rfl,λk arr t fz e=>by cases e⟩
theorem qai{w:World}{e:Ending}{w':World}(g:Nat)(h:wD w none [] e w')(hg:∀arr t fz,w.heap[g]?=some (.cells arr t fz)->g<w.heap.size):wD w (some g) [] e w':=
 ⟨h.1,h.2.1,h.2.2.1,h.2.2.2.1,h.2.2.2.2.1,λk hk _=>h.2.2.2.2.2.1 k hk (by simp),λk arr t fz e ha=>by cases e;exact⟨fz,by rw[h.2.2.2.2.2.1 g (hg _ _ _ ha) (by simp)];exact ha⟩⟩
theorem vH(w:World)(o:Obj):wD w none [] (.returned (.string ⟨#[]⟩)) (w.drew.alloc o):=
 ⟨rfl,rfl,rfl,rfl,by show w.heap.size<=(w.heap.push o).size;simp,λk hk _=>by show(w.heap.push o)[k]?=w.heap[k]?;rw[Array.getElem?_push,if_neg (by omega)],λk arr t fz e=>by cases e⟩
theorem xe(w:World)(g n:Nat)(s:List UInt8):wD w (some g) s (.returned (.string ⟨s.toArray⟩)) (w.drew.freeze ⟨g,0,none⟩ n):=by
 unfold World.freeze
 split
 ·exact⟨rfl,rfl,rfl,rfl,aO _,λ_ _ _=>rfl,λk arr t fz e ha=>⟨fz,ha⟩⟩
 ·refine⟨rfl,rfl,rfl,rfl,?_,λk hk gl=>?_,λk arr t fz e ha=>?_⟩
  ·show w.heap.size<=(w.heap.modify g _).size;simp
  ·show(w.heap.modify g _)[k]?=w.heap[k]?
   rw[cN,if_neg (λe=>gl (by rw[e]))]
  ·cases e
   refine⟨if fz.1==fz.2 then(0,0+n)else(min fz.1 0,max fz.2 (0+n)),?_⟩
   show(w.heap.modify g _)[g]?=_
   rw[cN,if_pos rfl,ha];rfl
theorem Zk9{W:World}(ts:Array TypeId)(ty e:TypeId)(hp:P.underlying ty=some (.pointer e))(a:Addr)(n:Nat)(ha:a.block<W.heap.size):
 ∃q W',(Builtin.unsafeSliceData_ ts ty #[.slice (some a) n 0]).run P W=.ok (.pointer q) W'/\(W'=W\/∃o,W'=W.alloc o):=by
 have IK:Builtin.unsafeSliceData_ ts ty #[.slice (some a) n 0]=
  (do
   if(0:Nat)≠0 then pure (.pointer (some a))
   else if(<-viewAt a.block).isSome then pure (.pointer (some a))
   else pure (.pointer (some ⟨<-newObj (.view a (<-elemOf ty)),0,none⟩))):=rfl
 rw[IK]
 cases EY:W.shape? a.block with
 |some sh=>exact⟨some ⟨W.heap.size,0,none⟩,W.alloc (.view a e),by simp[viewAt,EY,elemOf,run_underlying hp],.inr ⟨_,rfl⟩⟩
 |none=>
  have hx:W.heap[a.block]?=some W.heap[a.block]:=Array.getElem?_eq_getElem ha
  cases ho:W.heap[a.block]with
  |cells c t f=>rw[ho]at hx;simp[World.shape?,hx]at EY
  |view b t=>rw[ho]at hx;exact⟨some a,W,by simp[viewAt,EY,hx,getObj,Sem.run],.inl rfl⟩
  |_=>rw[ho]at hx;exact⟨some ⟨W.heap.size,0,none⟩,W.alloc (.view a e),by simp[viewAt,EY,hx,getObj,Sem.run,elemOf,run_underlying hp],.inr ⟨_,rfl⟩⟩
theorem Qzf{w:World}:∀(l:List Int) (a:Addr) (acc:ByteArray),(∀j x,l[j]?=some x->w.cell? (a.add j)=some (.int .u8 x))->
 (loadBytes a acc l.length).run P w=.ok ⟨acc.data++(bytesOf l).toArray⟩ w
 |[],a,acc,_=>by simp[loadBytes,bytesOf]
 |x ::l,a,acc,h=>by
  have h0:w.cell? a=some (.int .u8 x):=by
   have:=h 0 x rfl
   simpa[Addr.add]using this
  have ih:=Qzf l (a.add 1) (acc.push (x.toNat.toUInt8)) (λj y hy=>by
   have:=h (j+1) y (by simpa using hy)
   have e:(a.add 1).add j=a.add (j+1):=by
    unfold Addr.add
    by_cases hj:j=0
    ·subst hj;simp
    ·simp[hj];omega
   rw[e];exact this)
  simp only[List.length_cons,loadBytes,Sem.run_bind,run_load,h0,Result.andThen]
  rw[ih]
  congr 1
  apply ByteArray.ext
  simp[ByteArray.push,bytesOf]
theorem Zoh{w:World}(pt it ty e:TypeId)(hp:P.underlying pt=some (.pointer e))(hc:P.cellsOf e=1)(g cells:Nat)(EY:w.shape? g=some (e,cells))(l:List Int)(h0:l≠[])(hn:l.length<=cells)(h63:l.length<=9223372036854775807)
 (mv:∀j x,l[j]?=some x->w.cell? ((⟨g,0,none⟩:Addr).add j)=some (.int .u8 x)):
 (Builtin.unsafeString_ #[pt,it] ty #[.pointer (some ⟨g,0,none⟩),.int .i64 l.length]).run P w=.ok (.string ⟨(bytesOf l).toArray⟩) (w.freeze ⟨g,0,none⟩ l.length):=by
 have hl:l.length≠0:=by simpa using h0
 have NJ:=Qzf (P:=P) l ⟨g,0,none⟩ .empty mv
 have NK:=Lib.liesAt_bytes (P:=P) hc (cells/P.cellsOf e) l.length (by rw[hc];simpa using hn)
 have IL:¬(9223372036854775807:Int)<(l.length:Int):=by omega
 have IK:Builtin.unsafeString_ #[pt,it] ty #[.pointer (some ⟨g,0,none⟩),.int .i64 l.length]=
  (do
   let n<-asInt (.int .i64 l.length)
   if n<0 then runtimePanic (.error "unsafe.String: len out of range")
   if n>IntKind.i64.max then unsupported (.unsafePointer "String: a length above the largest int")
   if n=0 then pure (.string .empty)
   else if<-variablesAt ⟨g,0,none⟩ (<-elemOf pt) n.toNat then do
    let s<-loadBytes ⟨g,0,none⟩ .empty n.toNat
    freeze ⟨g,0,none⟩ n.toNat
    pure (.string s)
   else unsupported (.unsafePointer "String: not so many bytes at ptr")):=rfl
 rw[IK]
 have Cg:IntKind.i64.max=9223372036854775807:=rfl
 have WZ:¬(l.length:Int)<0:=by omega
 simp[asInt,asIntOf,Cg,IL,WZ,hl,variablesAt,EY,elemOf,run_underlying hp,NK,NJ]
set_option maxHeartbeats 2000000 in
set_option maxRecDepth 100000 in
theorem ye(L:Lays.n169 P ρ)(X:Builder.Extra P ρ)(b:Nat)(w W1 W2:World)(a q:Option Addr)(n cap:Nat)(s:ByteArray)(c1:w.drew.cell? ⟨b,1,none⟩=some (.slice a n cap))(c2:W1.cell? ⟨b,1,none⟩=some (.slice a n cap))
 (hSD:(Builtin.unsafeSliceData_ #[(ρ.t 37)] (ρ.t 127) #[.slice a n cap]).run P w.drew=.ok (.pointer q) W1) (hUS:(Builtin.unsafeString_ #[(ρ.t 127),(ρ.t 3)] (ρ.t 9) #[.pointer q,.int .i64 n]).run P W1=.ok (.string s) W2):
 Calls P (ρ.f 169) #[.pointer (some ⟨b,0,none⟩)] w λe w'=>e=.returned (.string s)/\w'=W2:=by
 have mixed:=L.mixed
 have u72:=run_underlying L.t72
 have t37:=L.t37;have a37:=L.a37;have z37:=L.z37;have u37:=run_underlying L.t37
 go_enter L.f169,Body.n169_ntmps ρ
 go_wp2
 go_region_o
 all_goals(go_wp2;go_ret;exact⟨rfl,rfl⟩)
theorem W0(L:Lays.n169 P ρ)(X:Builder.Extra P ρ){ty:TypeId}(b:Nat)(w W1:World)(p:Value)(a q:Option Addr)(cap:Nat)(AG:w.heap[b]?=some (.cells #[p,.slice a 0 cap] ty (0,0)))
 (hSD:(Builtin.unsafeSliceData_ #[(ρ.t 37)] (ρ.t 127) #[.slice a 0 cap]).run P w.drew=.ok (.pointer q) W1) (hW:W1=w.drew\/∃o,W1=w.drew.alloc o):
 Calls P (ρ.f 169) #[.pointer (some ⟨b,0,none⟩)] w (wD w none []):=by
 have cg:b<w.heap.size:=(Array.getElem?_eq_some_iff.1 AG).1
 have c1:w.drew.cell? ⟨b,1,none⟩=some (.slice a 0 cap):=by
  have:w.drew.heap[b]?=some (.cells #[p,.slice a 0 cap] ty (0,0)):=AG
  rw[Lib.cell_of_heap this];rfl
 have c2:W1.cell? ⟨b,1,none⟩=some (.slice a 0 cap):=by
  rcases hW with rfl|⟨o,rfl⟩
  ·exact c1
  ·have:(w.drew.alloc o).heap[b]?=_:=(Lib.alloc_old w.drew _ b cg).trans AG
   rw[Lib.cell_of_heap this];rfl
 refine(ye L X b w W1 W1 a q 0 cap .empty c1 c2 hSD (Any.unsafeString_none L X W1 q)).mono ?_
 rintro e w' ⟨rfl,rfl⟩
 rcases hW with rfl|⟨o,rfl⟩
 ·exact xah w
 ·exact vH w o
theorem Zgl(L:Lays.n169 P ρ)(X:Builder.Extra P ρ){ty:TypeId}(b:Nat)(w:World)(p:Value)(a:Option Addr)(ha:AE w.heap.size a)(AG:w.heap[b]?=some (.cells #[p,.slice a 0 0] ty (0,0))):
 Calls P (ρ.f 169) #[.pointer (some ⟨b,0,none⟩)] w (wD w none []):=by
 cases a with
 |none=>exact W0 L X b w w.drew p none none 0 AG rfl (.inl rfl)
 |some a=>
  obtain⟨q,W,h1,h2⟩:=Zk9 (P:=P) (W:=w.drew) #[(ρ.t 37)] (ρ.t 127) (ρ.t 5) L.t127 a 0 (ha a rfl)
  exact W0 L X b w W p (some a) q 0 AG h1 h2
theorem qI(L:Lays.n169 P ρ)(X:Builder.Extra P ρ){ty:TypeId}(b g:Nat)(w:World)(p:Value)(cur:Array Value)(l:List Int)(Bn:l≠[])(AG:w.heap[b]?=some (.cells #[p,.slice (some ⟨g,0,none⟩) l.length cur.size] ty (0,0)))
 (hg:w.heap[g]?=some (.cells cur (ρ.t 5) (0,0))) (hn:l.length<=cur.size) (hm:cur.size<=maxLen) (hc:∀(j:Nat) (x:Int),l[j]?=some x->cur[j]?=some (Value.int .u8 x)):
 Calls P (ρ.f 169) #[.pointer (some ⟨b,0,none⟩)] w (wD w (some g) (bytesOf l)):=by
 have gl:l.length≠0:=by simpa using Bn
 have S5:w.drew.heap[g]?=some (.cells cur (ρ.t 5) (0,0)):=hg
 have c1:w.drew.cell? ⟨b,1,none⟩=some (.slice (some ⟨g,0,none⟩) l.length cur.size):=by
  have:w.drew.heap[b]?=some (.cells #[p,.slice (some ⟨g,0,none⟩) l.length cur.size] ty (0,0)):=AG
  rw[Lib.cell_of_heap this];rfl
 refine(ye L X b w w.drew _ _ _ _ _ _ c1 c1 (Lib.run_unsafeSliceData_row _ _ _ _ _ _ (by omega)) (Zoh (ρ.t 127) (ρ.t 3) (ρ.t 9) (ρ.t 5) L.t127 X.cellsByte g cur.size (by simp[World.shape?,S5]) l Bn hn (by unfold maxLen at hm;omega) λj x hx=>?_)).mono ?_
 ·rw[Addr.add_lit,aX,Lib.cell_of_heap S5]
  exact hc j x hx
 ·rintro e w' ⟨rfl,rfl⟩
  exact xe w g l.length (bytesOf l)
theorem zai(L:Lays.n169 P ρ)(X:Builder.Extra P ρ){ty:TypeId}(b g:Nat)(w:World)(p:Value)(cur:Array Value)(l:List Int)(AG:w.heap[b]?=some (.cells #[p,.slice (some ⟨g,0,none⟩) l.length cur.size] ty (0,0)))
 (hg:w.heap[g]?=some (.cells cur (ρ.t 5) (0,0))) (hn:l.length<=cur.size) (hm:cur.size<=maxLen) (hc:∀(j:Nat) (x:Int),l[j]?=some x->cur[j]?=some (Value.int .u8 x)):
 Calls P (ρ.f 169) #[.pointer (some ⟨b,0,none⟩)] w (wD w (some g) (bytesOf l)):=by
 by_cases Bn:l=[]
 ·subst Bn
  have cg:g<w.heap.size:=(Array.getElem?_eq_some_iff.1 hg).1
  have hs:∀e w',wD w none [] e w'->wD w (some g) (bytesOf []) e w':=λe w' h=>qai g h λ_ _ _ _=>cg
  by_cases h0:cur.size=0
  ·rw[h0]at AG
   exact(Zgl L X b w p (some ⟨g,0,none⟩) (λx e=>by cases e;exact cg) AG).mono hs
  ·exact(W0 L X b w w.drew p (some ⟨g,0,none⟩) (some ⟨g,0,none⟩) cur.size AG (Lib.run_unsafeSliceData_row _ _ _ _ _ _ h0) (.inl rfl)).mono hs
 ·exact qI L X b g w p cur l Bn AG hg hn hm hc
theorem xI(L:Lays.n240 P ρ)(X:Builder.X72 P ρ){ty u:TypeId}(hl:liesAt P P.depth ty (2/P.cellsOf ty) 0 (ρ.t 72) 1=true)(E:ao):
 j9 P (ρ.f 240) [.ptr 0 0 0] [⟨true,ty,2,.gen [[.c8 0,.all 1]]⟩,⟨false,u,1,E⟩] (.dt []) [⟨true,ty,2,.gen [[.c8 0,.all 1]]⟩,⟨false,u,1,E⟩]:=
 Zgo (λb w x h=>yH L X hl b w x h) (λb w x h=>zah L X b w x h) E
theorem qf(hf:ρ.f 169<YB)(L:Lays.n169 P ρ)(X:Builder.Extra P ρ){ty:TypeId}(l:List Int):
 sI P (ρ.f 169) 1 [.ptr 0 0 0] [⟨true,ty,2,.gen [[.c8 0,.all 1]]⟩,⟨false,ρ.t 5,1,.ints .u8 l⟩] (.str (bytesOf l)) [⟨true,ty,2,.gen [[.c8 0,.sl 1 (.ints .u8 l) false]]⟩]:=
 qe hf (λb w p a ha h=>Zgl L X b w p a ha h) (λb g w p cur l h1 h2 h3 h4 h5=>zai L X b g w p cur l h1 h2 h3 h4 h5) l
end Go.GD
namespace Go.GD
open Go
theorem j9.Ch{P:Program}{f:FuncId}{args:List D}{res:D}(h:∀(c:Ctx) (w:World) (vs:List Value),tz c.I w->j8 c w args vs->Calls P f vs.toArray w λe w'=>∃v,e=.returned v/\(∀c',Rep c' w' res v)/\RowKit.Below w.heap.size w w'):j9 P f args [] res []:=by
 intro c w vs hm hb hR ha
 refine(h c w vs hm.kN ha).mono λe w' hq=>?_
 obtain⟨v,he,hr,h1,h2,h3,h4,h5⟩:=hq
 have Gw:∀r x,c.R r=some x->False:=λr x hx=>by rw[hR]at hx;simp at hx
 refine⟨v,c,he,⟨⟨λr x hx=>(Gw r x hx).elim,λr s x y hx=>(Gw r x hx).elim,λb iI=>⟨bI (hm.fu b iI).1 h4,λr x hx=>(Gw r x hx).elim⟩,bH hm.top h4,hm.kN.mono λb hb=>⟨hb,h5 b (hm.fu b hb).1⟩⟩,⟨rfl,aO _,λb iI=>⟨iI,h5 b (hm.fu b iI).1⟩,λr x hx=>(Gw r x hx).elim⟩,⟨h1,h2,h3,h4,λb tG _=>h5 b tG⟩,λb iI=>.inl iI,λr x hx=>(Gw r x hx).elim⟩,hR,hr c⟩
theorem j9.Ci{P:Program}{f:FuncId}{args:List D}{res:D}(h:∀(c:Ctx) (w:World) (vs:List Value),j8 c w args vs->Calls P f vs.toArray w λe w'=>∃v,e=.returned v/\(∀c',Rep c' w' res v)/\RowKit.Below w.heap.size w w'):j9 P f args [] res []:=
 .Ch λc w vs _ ha=>h c w vs ha
theorem xf{P:Program}{f:FuncId}(H:∀(s:ByteArray) (c:Nat) (w:World),c<=9223372036854775807->s.size*c<=140737488355328->Calls P f #[.string s,.int .i64 c] w λe w'=>e=.returned (.string ⟨(Lib.repeatL s.data.toList c).toArray⟩)/\RowKit.Below w.heap.size w w')
 {s:List UInt8} {n:Int} (h0:0<=n) (h1:n<=9223372036854775807) (h2:s.length*n.toNat<=140737488355328):j9 P f [.str s,.int .i64 n] [] (.str (Lib.repeatL s n.toNat)) []:=by
 refine j9.Ci λc w vs ha=>?_
 match vs,ha with
 |[u,v],ha=>
  have hu:u=.string ⟨s.toArray⟩:=ha.1
  have hv:v=.int .i64 n:=ha.2.1
  subst hu;subst hv
  have hn:((n.toNat:Nat):Int)=n:=Int.toNat_of_nonneg h0
  have:=H ⟨s.toArray⟩ n.toNat w (by omega) (by simpa[ByteArray.size]using h2)
  rw[hn]at this
  exact this.mono λe w' ⟨he,hb⟩=>⟨_,he,λc'=>by simp[Rep,VRep,cv],hb⟩
theorem tz.var{I:ae}{w:World}(h:tz I w){P:Program}{name:String}{g:Nat}{k:IntKind}{l:List Int}(hg:P.globalNamed name=some g)(hm:(g,k,l)∈Kt):Lib.TabIs P w name k l:=by
 obtain⟨_,ty,fz,h2⟩:=h _ hm
 unfold Lib.TabIs World.var?
 rw[hg]
 simp only[Option.bind_some,h2]
theorem tz.at{I:ae}{w:World}(h:tz I w){g:Nat}{l:List Nat}(hm:(g,IntKind.u8,l.map λ(n:Nat)=>(n:Int))∈Kt):Proofs.TabAt g l w:=by
 obtain⟨_,ty,fz,h2⟩:=h _ hm
 intro j hj
 simp only[World.cell?,h2]
 simp[hj]
theorem xai{P:Program}{f:FuncId}{g:Nat}(H:∀(n:Int),-9223372036854775808<=n->n<=9223372036854775807->∀w:World,Lib.TabIs P w "internal/strconv.uint64pow10" .u64 Lib.pow10Tab->Calls P f #[.int .i64 n] w λe w'=>e=.returned (.string ⟨(Lib.itoa n).toArray⟩)/\∃k os,w'=Sort.grow (w.drewN k) os)(hg:P.globalNamed "internal/strconv.uint64pow10" =some g)(hm:(g,IntKind.u64,Lib.pow10Tab)∈Kt){n:Int}(h0:0<=n)(h1:n<=9223372036854775807):j9 P f [.int .i64 n] [] (.str (Lib.decDigits n.toNat)) []:=by
 refine j9.Ch λc w vs ht ha=>?_
 match vs,ha with
 |[v],ha=>
  have hv:v=.int .i64 n:=ha.1
  subst hv
  refine(H n (by omega) h1 w (ht.var hg hm)).mono λe w' ⟨he,k,os,hb⟩=>⟨_,he,λc'=>?_,?_⟩
  ·rw[Lib.itoa,if_neg (by omega)]
   simp[Rep,VRep,cv]
  ·subst hb
   refine⟨rfl,rfl,rfl,?_,λb hb=>?_⟩
   ·show w.heap.size<=(w.heap++os).size
    simp
   ·show(w.heap++os)[b]?=_
    rw[Array.getElem?_append_left (show b<w.heap.size from hb)]
