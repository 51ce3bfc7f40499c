import Derived.Shelf.Strings.Builder1
import Derived.Test.YthjfindbamdacaaGreatDoorAuditComparesFd
import Derived.Test.YthjfindbamdacaaGreatDoorAuditComparesShelf
import Derived.Test.YthjfindbamdacaaGreatDoorAuditComparesBase
import Derived.Shelf.Spec.SlicesGrow
import Derived.Lib.ItoaNum
import Derived.Lib.ItoaMem
open Nat renaming add_zero->bG,zero_mul->cM,le_refl->aO,lt_of_lt_of_le->bI,le_trans->bH,zero_add->aX
open Array renaming ext_getElem?->cK,getElem?_eq_none->cL,getElem?_modify->cN
set_option linter.all false
namespace Go.GD
open Go
theorem Z63{I:ab}{w:World}{k:IntKind}:∀{l:List Int} {arr:Array Value} {off:Nat},iu I w (ak.ints k l).l arr off 1->∀j x,l[j]?=some x->arr[off+j]?=some (.int k x)
 |[],_,_,_,j,x,h=>by simp at h
 |n ::l,arr,off,h,j,x,hx=>by
  have h':=nU.1 h
  obtain⟨_,h1,h2⟩:=h'
  obtain⟨⟨v,hv,hp⟩,_⟩:=wW.1 h1
  cases j with
  |zero=>
   have e:n=x:=by simpa using hx
   rw[bG,hv,ri.1 hp,e]
  |succ j=>
   have:=Z63 (l:=l) h2 j x (by simpa using hx)
   rw[show off+(j+1)=off+1+j by omega];exact this
theorem yd{I I':ab}{w w':World}{d:D}{v:Value}(hs:kG d)(h:fq I w d v):fq I' w' d v:=by
 cases h<;>first|exact hs.elim|constructor
theorem Z25{I I':ab}{w w':World}:∀{cs:List D} {arr:Array Value} {off:Nat},(∀d∈cs,kG d)->nB I w cs arr off->nB I' w' cs arr off
 |[],_,_,_,_=>Bo.2 trivial
 |d::cs,arr,off,hs,h=>by
  obtain⟨⟨v,hv,hp⟩,hr⟩:=wW.1 h
  exact wW.2 ⟨⟨v,hv,yd (hs d (by simp)) hp⟩,Z25 (λe he=>hs e (by simp[he])) hr⟩
theorem Z27{I I':ab}{w w':World}:∀{es:List (List D)} {arr:Array Value} {off sz:Nat},(∀e∈es,∀d∈e,kG d)->iu I w es arr off sz->iu I' w' es arr off sz
 |[],_,_,_,_,_=>pr.2 trivial
 |e::es,arr,off,sz,hs,h=>by
  obtain⟨h1,h2,h3⟩:=nU.1 h
  exact nU.2 ⟨h1,Z25 (hs e (by simp)) h2,Z27 (λf hf=>hs f (by simp[hf])) h3⟩
theorem Zc6{P:Program}{f:FuncId}{ty u:TypeId}
 (h0:∀(b:Nat) (w:World) (x:Value),w.heap[b]?=some (.cells #[.pointer none,x] ty (0,0))->Calls P f #[.pointer (some ⟨b,0,none⟩)] w λe w'=>e=.returned (.tuple #[])/\w'=w.setCell ⟨b,0,none⟩ (.pointer (some ⟨b,0,none⟩)))
 (h1:∀(b:Nat) (w:World) (x:Value),w.heap[b]?=some (.cells #[.pointer (some ⟨b,0,none⟩),x] ty (0,0))->Calls P f #[.pointer (some ⟨b,0,none⟩)] w λe w'=>e=.returned (.tuple #[])/\w'=w)
 (E:ak):jZ P f [.ptr 0 0 0] [⟨true,ty,2,.gen [[.cy 0,.all 1]]⟩,⟨false,u,1,E⟩] (.dt []) [⟨true,ty,2,.gen [[.cy 0,.all 1]]⟩,⟨false,u,1,E⟩]:=by
 intro c w vs hm hb hR ha
 match vs,ha with
 |[v],ha=>
  obtain⟨⟨row,g1,gV,g2,rfl⟩,_⟩:=ha
  have tR:c.R 0=some ⟨true,ty,2,.gen [[.cy 0,.all 1]]⟩:=by rw[hR];rfl
  obtain⟨arr,hh,_,oQ⟩:=hm.real tR gV
  simp only[if_true]at oQ
  obtain⟨e,k1,k2,k3,k4⟩:=oQ
  have he:[.cy 0,.all 1]=e:=by injection k1 with k1;exact(List.cons.inj k1).1
  subst he
  obtain⟨⟨p,hp,Sb⟩,⟨x,hx,tU⟩,_⟩:=k4
  have lQ:arr= #[p,x]:=by
   apply cK
   intro i
   match i with
   |0=>simpa using hp
   |1=>simpa using hx
   |n+2=>rw[cL (by omega),cL (by simp)]
  subst lQ
  simp only[cM,bG]at Sb g1⊢
  have cb:row.sz=2:=by rw[tR]at g1;rw[<-Option.some.inj g1]
  rcases Sb with rfl|⟨ao,r1,r2,r3,rfl⟩
  ·refine(h0 _ w x hh).mono ?_
   rintro e w' ⟨rfl,rfl⟩
   have pL:w.setCell ⟨c.ρ 0,0,none⟩ (.pointer (some ⟨c.ρ 0,0,none⟩))=w.setRow (c.ρ 0) #[.pointer (some ⟨c.ρ 0,0,none⟩),x]:=by
    rw[setCell_eq_setRow w (c.ρ 0) 0 _ ty (0,0) _ hh];rfl
   rw[pL]
   obtain⟨hg,hw⟩:=hm.write (ao:=⟨true,ty,2,.gen [[.cy 0,.all 1]]⟩) (arr:= #[.pointer (some ⟨c.ρ 0,0,none⟩),x]) tR gV hh rfl rfl rfl rfl rfl
   have kb:=hw ⟨Nat.two_pos,by
    simp only[if_true]
    exact⟨_,rfl,rfl,rfl,⟨_,rfl,.inr ⟨⟨true,ty,2,.gen [[.cy 0,.all 1]]⟩,by simp[Ctx.jv],gV,Nat.one_pos,rfl⟩⟩,⟨x,rfl,MD hg tU⟩,trivial⟩⟩
   refine⟨_,c.jv 0 ⟨true,ty,2,.gen [[.cy 0,.all 1]]⟩,rfl,⟨kb,hg,(RL w _ _).mono λb _ e=>⟨0,_,tR,gV,e.symm⟩,λb hb=>.inl hb,λs ob hs hv=>.inl ?_⟩,λr=>?_,[],rfl,trivial⟩
   ·by_cases e:s=0
    ·subst e;exact⟨⟨_,tR⟩,hv,rfl⟩
    ·exact⟨⟨ob,by simpa[Ctx.jv,e]using hs⟩,hv,rfl⟩
   ·simp only[Ctx.jv]
    by_cases e:r=0
    ·subst e;rfl
    ·rw[if_neg e,hR]
  ·simp only[cM,bG]at hh⊢
   refine(h1 _ w x hh).mono ?_
   rintro e w' ⟨rfl,rfl⟩
   exact⟨_,c,rfl,⟨hm,jf.refl _ _,Fr.refl _ _,λb hb=>.inl hb,λr ao hr hv=>.inl ⟨⟨ao,hr⟩,hv,rfl⟩⟩,hR,[],rfl,trivial⟩
def u6(w:World)(g:Option Nat)(s:List UInt8)(e:Ending)(w':World):Prop:=
 e = .returned (.string ⟨s.toArray⟩)/\w'.os=w.os/\w'.tape=w.tape/\w'.output=w.output/\w.heap.size<=w'.heap.size/\(∀k,k<w.heap.size->g≠some k->w'.heap[k]?=w.heap[k]?)/\
  ∀k arr t fz,g=some k->w.heap[k]?=some (.cells arr t fz)->∃VW,w'.heap[k]?=some (.cells arr t VW)
theorem vd{P:Program}{f:FuncId}(hf:f<YB){ty u:TypeId}
 (h0:∀(b:Nat) (w:World) (p:Value) (a:Option Addr),Ac w.heap.size a->w.heap[b]?=some (.cells #[p,.slice a 0 0] ty (0,0))->Calls P f #[.pointer (some ⟨b,0,none⟩)] w (u6 w none []))
 (h1:∀(b g:Nat) (w:World) (p:Value) (cur:Array Value) (l:List Int),w.heap[b]?=some (.cells #[p,.slice (some ⟨g,0,none⟩) l.length cur.size] ty (0,0))->w.heap[g]?=some (.cells cur u (0,0))->l.length<=cur.size->cur.size<=maxLen->(∀(j:Nat) (x:Int),l[j]?=some x->cur[j]?=some (Value.int .u8 x))->
  Calls P f #[.pointer (some ⟨b,0,none⟩)] w (u6 w (some g) (bytesOf l)))
 (l:List Int):r9 P f 1 [.ptr 0 0 0] [⟨true,ty,2,.gen [[.cy 0,.all 1]]⟩,⟨false,u,1,.ints .u8 l⟩] (.str (bytesOf l)) [⟨true,ty,2,.gen [[.cy 0,.sl 1 (.ints .u8 l) false]]⟩]:=by
 intro c w vs hm hb hR ha
 refine FU.real hf ?_
 match vs,ha with
 |[v],ha =>
  obtain⟨⟨row,g1,gV,g2,rfl⟩,_⟩:=ha
  have tR:c.R 0=some ⟨true,ty,2,.gen [[.cy 0,.all 1]]⟩:=by rw[hR];rfl
  have wX:c.R 1=some ⟨false,u,1,.ints .u8 l⟩:=by rw[hR];rfl
  obtain⟨arr,hh,_,oQ⟩:=hm.real tR gV
  simp only[if_true]at oQ
  obtain⟨e,k1,k2,k3,k4⟩:=oQ
  have he:[.cy 0,.all 1]=e:=by injection k1 with k1;exact(List.cons.inj k1).1
  subst he
  obtain⟨⟨p,hp,Sb⟩,⟨x,hx,tU⟩,_⟩:=k4
  have lQ:arr= #[p,x]:=by
   apply cK
   intro i
   match i with
   |0=>simpa using hp
   |1=>simpa using hx
   |n+2=>rw[cL (by omega),cL (by simp)]
  subst lQ
  simp only[cM,bG]at g1⊢
  have cb:row.sz=2:=by rw[tR]at g1;rw[<-Option.some.inj g1]
  have lt0:=hm.lt tR gV
  obtain⟨Eo,q1,q2,hv⟩:=tU
  have MR:Eo=⟨false,u,1,.ints .u8 l⟩:=by rw[wX]at q1;exact(Option.some.inj q1).symm
  subst MR
  have fin:∀(g:Option Nat) (e:Ending) (w':World),u6 w g (bytesOf l) e w'->(∀k,g=some k->¬c.V 1/\k=c.ρ 1)->(∀c':Ctx,(¬c.V 1->c'.I (c.ρ 1))->c'.base=0->cu c' w' (.sl 1 (.ints .u8 l) false) x)->
   ∃v c',e=.returned v/\jA (List.range' 1 1) c w c' w'/\(∀r,c'.R r=([⟨true,ty,2,.gen [[.cy 0,.sl 1 (.ints .u8 l) false]]⟩]:List Row)[r]?)/\Rep c' w' (.str (bytesOf l)) v:=by
   intro g e w' ⟨he,s1,s2,s3,s4,s5,s6⟩ hg jz
   have hI:∀b,c.I b->w'.heap[b]?=w.heap[b]? :=λb hb=>s5 b (hm.fh b hb).1 λe=>by
    obtain⟨nv,e2⟩:=hg b e
    exact(hm.fh b hb).2 1 _ wX nv e2.symm
   have h00:w'.heap[c.ρ 0]?=w.heap[c.ρ 0]? :=s5 _ lt0 λe=>by
    obtain⟨nv,e2⟩:=hg _ e
    exact absurd (hm.inj 0 1 _ _ tR wX gV nv e2) (by decide)
   refine⟨_,{c with R:=λr=>([⟨true,ty,2,.gen [[.cy 0,.sl 1 (.ints .u8 l) false]]⟩]:List Row)[r]?,I:=λb=>c.I b\/(¬c.V 1/\b=c.ρ 1)},he,⟨⟨?_,?_,?_,?_,hm.kC.mono λb hb=>⟨.inl hb,hI b hb⟩⟩,⟨rfl,aO _,λb hb=>⟨.inl hb,hI b hb⟩,?_⟩,?_,?_,?_⟩,λr=>rfl,rfl⟩
   ·intro r row hr
    match r with
    |0 =>
     have hr:(⟨true,ty,2,.gen [[.cy 0,.sl 1 (.ints .u8 l) false]]⟩:Row)=row:=by simpa using hr
     subst hr
     refine .inr ⟨gV,#[p,x],by rw[h00];exact hh,Nat.two_pos,?_⟩
     simp only[if_true]
     refine⟨_,rfl,rfl,rfl,⟨p,rfl,?_⟩,⟨x,rfl,jz _ (λnv=>.inr ⟨nv,rfl⟩) hb⟩,trivial⟩
     rcases Sb with hp|⟨ao,r1,r2,r3,hp⟩
     ·exact .inl hp
     ·refine .inr ⟨⟨true,ty,2,.gen [[.cy 0,.sl 1 (.ints .u8 l) false]]⟩,rfl,gV,Nat.one_pos,?_⟩
      rw[hp];simp
    |r+1=>simp at hr
   ·intro r s x y hr hs v1 v2 he
    match r,s with
    |0,0=>rfl
    |r+1,_=>simp at hr
    |0,s+1=>simp at hs
   ·intro b hb
    rcases hb with hb|⟨nv,rfl⟩
    ·refine⟨bI (hm.fh b hb).1 s4,λr x hr v=>?_⟩
     match r with
     |0=>exact(hm.fh b hb).2 0 _ tR gV
     |r+1=>simp at hr
    ·refine⟨bI (hm.lt wX nv) s4,λr x hr v=>?_⟩
     match r with
     |0=>exactλe=>absurd (hm.inj 0 1 _ _ tR wX gV nv e) (by decide)
     |r+1=>simp at hr
   ·exact bH hm.top s4
   ·intro r row hr
    obtain⟨hk,jT,nc,rfl⟩:=nT hr
    match r with
    |0=>
     have:(⟨true,ty,2,.gen [[.cy 0,.all 1]]⟩:Row)=jT:=by rw[tR]at nc;exact Option.some.inj nc
     subst this
     exact⟨_,rfl,rfl,rfl,rfl,rfl,rfl,Iff.rfl,λ_ a ha=>⟨a,by show w'.heap[c.ρ 0]?=_;rw[h00];exact ha,rfl⟩⟩
    |1=>simp[bq]at hk
    |r+2=>rw[hR]at nc;simp at nc
   ·exact⟨s1,s2,s3,s4,λb hb hn=>s5 b hb λe=>by
     obtain⟨nv,e2⟩:=hg b e
     exact hn ⟨1,_,wX,nv,e2.symm⟩⟩
   ·intro b hb
    rcases hb with hb|⟨nv,rfl⟩
    ·exact .inl hb
    ·exact .inr (.inl ⟨1,_,by simp[bq],wX,nv,rfl⟩)
   ·intro r ao hr hv
    match r with
    |0=>exact .inl ⟨⟨_,tR⟩,gV,rfl⟩
    |r+1=>simp at hr
  rcases hv with⟨hV,a,rfl,Ad⟩|⟨hV,cap,cur,rfl,c1,c2,c3,c4⟩
  ·have hl:l=[]:=by have:=(hm.nQ wX hV).2.1;simpa[ak.l]using this
   subst hl
   refine(h0 _ w p a (Ad.mono hm.top) hh).mono λe w' hp=>fin none e w' hp (λk e=>by cases e) λc' hi hb=>?_
   exact⟨a,0,rfl,aO _,.inl rfl⟩
  ·obtain⟨MS,jx,_,hE⟩:=hm.real wX hV
   simp only at jx c1 c3 c4
   rw[c3]at jx;cases jx
   simp only[Bool.false_eq_true,if_false]at hE
   have hl:(ak.ints IntKind.u8 l).l.length=l.length:=by simp[ak.l]
   rw[hl]at c1
   simp only[Nat.mul_one]at c4
   subst c4
   have hh':w.heap[c.ρ 0]?=some (.cells #[p,.slice (some ⟨c.ρ 1,0,none⟩) l.length cur.size] ty (0,0)):=by rw[<-hl];exact hh
   have lR:=Z63 hE
   simp only[aX]at lR
   refine(h1 _ _ w p cur l hh' c3 c1 c2 lR).mono λe w' hp=>fin (some (c.ρ 1)) e w' hp (λk e=>⟨hV,(Option.some.inj e).symm⟩) λc' hi hb=>?_
   obtain⟨VW,hz⟩:=hp.2.2.2.2.2.2 _ _ _ _ rfl c3
   refine⟨some ⟨c.ρ 1,0,none⟩,cur.size,by simp only[hl],by rw[hl];exact c1,.inr ⟨c.ρ 1,0,cur,u,VW,rfl,hi hV,(λe=>by cases e),hz,?_⟩⟩
   have pl:∀e∈(ak.ints IntKind.u8 l).l,∀d∈e,kG d:=by
    intro e he d hd
    simp only[ak.l,List.mem_map]at he
    obtain⟨n,_,rfl⟩:=he
    simp only[List.mem_singleton]at hd
    subst hd;trivial
   exact Z27 pl hE
end Go.GD
namespace Go.GD
open Go Go.Proofs Go.Shelf Go.RowKit
variable {P:Program} {ρ:Ren}
set_option maxHeartbeats 1000000 in
set_option maxRecDepth 100000 in
theorem yF(L:Lays.n240 P ρ)(X:Builder.X72 P ρ){ty:TypeId}(hl:liesAt P P.depth ty (2/P.cellsOf ty) 0 (ρ.t 72) 1=true)(b:Nat)(w:World)(x:Value)(hh:w.heap[b]?=some (.cells #[.pointer none,x] ty (0,0))):
 Calls P (ρ.f 240) #[.pointer (some ⟨b,0,none⟩)] w λe w'=>e=.returned (.tuple #[])/\w'=w.setCell ⟨b,0,none⟩ (.pointer (some ⟨b,0,none⟩)):=by
 have h0:w.cell? ⟨b,0,none⟩=some (.pointer none):=by rw[Lib.cell_of_heap hh];rfl
 have Ep:w.shape? b=some (ty,2):=by simp[World.shape?,hh]
 have Dg:w.frozen? ⟨b,0,none⟩=false:=by simp[World.frozen?,hh]
 obtain⟨j,hj,hjs⟩:=Option.map_eq_some_iff.1 X.sizeBuilder
 have u72:=run_underlying L.t72
 have t70:=L.t70;have a70:=L.a70;have z70:=L.z70;have u70:=run_underlying L.t70
 go_enter L.f240,Body.n240_ntmps ρ
 go_wp2
 rw[Lib.run_to_unsafe w ⟨b,0,none⟩ L.t70 L.t164 hj (by rw[hjs];decide) Ep (Nat.zero_lt_succ 1)]
 simp only[Result.andThen]
 rw[Oper.upon_value]
 go_wp2
 rw[run_callFunc_extern L.f276 (by kernel_rfl) (by kernel_rfl) (by kernel_rfl) (e:=Extern.AbiNoEscape.same) (by kernel_rfl)]
 rw[Lib.run_noEscape]
 simp only[Result.andThen]
 rw[Oper.upon_value]
 go_wp2
 rw[Lib.run_from_unsafe w ⟨b,0,none⟩ L.t164 L.t70 hj Ep hl]
 simp only[Result.andThen]
 rw[Oper.upon_value]
 go_wp2
 go_end0
 exact⟨rfl,rfl⟩
theorem xad(L:Lays.n240 P ρ)(X:Builder.X72 P ρ){ty:TypeId}(b:Nat)(w:World)(x:Value)(hh:w.heap[b]?=some (.cells #[.pointer (some ⟨b,0,none⟩),x] ty (0,0))):
 Calls P (ρ.f 240) #[.pointer (some ⟨b,0,none⟩)] w λe w'=>e=.returned (.tuple #[])/\w'=w:=
 Any.Builder_copyCheck_used L X b w (by rw[Lib.cell_of_heap hh];rfl)
theorem qae(w:World):u6 w none [] (.returned (.string ⟨#[]⟩)) w.drew:=
 ⟨rfl,rfl,rfl,rfl,aO _,λ_ _ _=>rfl,λk arr t fz e=>by cases e⟩
theorem zae{w:World}{e:Ending}{w':World}(g:Nat)(h:u6 w none [] e w')(hg:∀arr t fz,w.heap[g]?=some (.cells arr t fz)->g<w.heap.size):u6 w (some g) [] e w':=
 ⟨h.1,h.2.1,h.2.2.1,h.2.2.2.1,h.2.2.2.2.1,λk hk _=>h.2.2.2.2.2.1 k hk (by simp),λk arr t fz e ha=>by cases e;exact⟨fz,by rw[h.2.2.2.2.2.1 g (hg _ _ _ ha) (by simp)];exact ha⟩⟩
theorem vF(w:World)(o:Obj):u6 w none [] (.returned (.string ⟨#[]⟩)) (w.drew.alloc o):=
 ⟨rfl,rfl,rfl,rfl,by show w.heap.size<=(w.heap.push o).size;simp,λk hk _=>by show(w.heap.push o)[k]?=w.heap[k]?;rw[Array.getElem?_push,if_neg (by omega)],λk arr t fz e=>by cases e⟩
theorem qe(w:World)(g n:Nat)(s:List UInt8):u6 w (some g) s (.returned (.string ⟨s.toArray⟩)) (w.drew.freeze ⟨g,0,none⟩ n):=by
 unfold World.freeze
 split
 ·exact⟨rfl,rfl,rfl,rfl,aO _,λ_ _ _=>rfl,λk arr t fz e ha=>⟨fz,ha⟩⟩
 ·refine⟨rfl,rfl,rfl,rfl,?_,λk hk gg=>?_,λk arr t fz e ha=>?_⟩
  ·show w.heap.size<=(w.heap.modify g _).size;simp
  ·show(w.heap.modify g _)[k]?=w.heap[k]?
   rw[cN,if_neg (λe=>gg (by rw[e]))]
  ·cases e
   refine⟨if fz.1==fz.2 then(0,0+n)else(min fz.1 0,max fz.2 (0+n)),?_⟩
   show(w.heap.modify g _)[g]?=_
   rw[cN,if_pos rfl,ha];rfl
theorem Zh9{W:World}(ts:Array TypeId)(ty e:TypeId)(hp:P.underlying ty=some (.pointer e))(a:Addr)(n:Nat)(ha:a.block<W.heap.size):
 ∃q W',(Builtin.unsafeSliceData_ ts ty #[.slice (some a) n 0]).run P W=.ok (.pointer q) W'/\(W'=W\/∃o,W'=W.alloc o):=by
 have H6:Builtin.unsafeSliceData_ ts ty #[.slice (some a) n 0]=
  (do
   if(0:Nat)≠0 then pure (.pointer (some a))
   else if(<-viewAt a.block).isSome then pure (.pointer (some a))
   else pure (.pointer (some ⟨<-newObj (.view a (<-elemOf ty)),0,none⟩))):=rfl
 rw[H6]
 cases Ep:W.shape? a.block with
 |some sh=>exact⟨some ⟨W.heap.size,0,none⟩,W.alloc (.view a e),by simp[viewAt,Ep,elemOf,run_underlying hp],.inr ⟨_,rfl⟩⟩
 |none=>
  have hx:W.heap[a.block]?=some W.heap[a.block]:=Array.getElem?_eq_getElem ha
  cases ho:W.heap[a.block]with
  |cells c t f=>rw[ho]at hx;simp[World.shape?,hx]at Ep
  |view b t=>rw[ho]at hx;exact⟨some a,W,by simp[viewAt,Ep,hx,getObj,Sem.run],.inl rfl⟩
  |_=>rw[ho]at hx;exact⟨some ⟨W.heap.size,0,none⟩,W.alloc (.view a e),by simp[viewAt,Ep,hx,getObj,Sem.run,elemOf,run_underlying hp],.inr ⟨_,rfl⟩⟩
theorem Qy0{w:World}:∀(l:List Int) (a:Addr) (acc:ByteArray),(∀j x,l[j]?=some x->w.cell? (a.add j)=some (.int .u8 x))->
 (loadBytes a acc l.length).run P w=.ok ⟨acc.data++(bytesOf l).toArray⟩ w
 |[],a,acc,_=>by simp[loadBytes,bytesOf]
 |x ::l,a,acc,h=>by
  have h0:w.cell? a=some (.int .u8 x):=by
   have:=h 0 x rfl
   simpa[Addr.add]using this
  have ih:=Qy0 l (a.add 1) (acc.push (x.toNat.toUInt8)) (λj y hy=>by
   have:=h (j+1) y (by simpa using hy)
   have e:(a.add 1).add j=a.add (j+1):=by
    unfold Addr.add
    by_cases hj:j=0
    ·subst hj;simp
    ·simp[hj];omega
   rw[e];exact this)
  simp only[List.length_cons,loadBytes,Sem.run_bind,run_load,h0,Result.andThen]
  rw[ih]
  congr 1
  apply ByteArray.ext
  simp[ByteArray.push,bytesOf]
theorem Zls{w:World}(pt it ty e:TypeId)(hp:P.underlying pt=some (.pointer e))(hc:P.cellsOf e=1)(g cells:Nat)(Ep:w.shape? g=some (e,cells))(l:List Int)(h0:l≠[])(hn:l.length<=cells)(h63:l.length<=9223372036854775807)
 (lR:∀j x,l[j]?=some x->w.cell? ((⟨g,0,none⟩:Addr).add j)=some (.int .u8 x)):
 (Builtin.unsafeString_ #[pt,it] ty #[.pointer (some ⟨g,0,none⟩),.int .i64 l.length]).run P w=.ok (.string ⟨(bytesOf l).toArray⟩) (w.freeze ⟨g,0,none⟩ l.length):=by
 have hl:l.length≠0:=by simpa using h0
 have MT:=Qy0 (P:=P) l ⟨g,0,none⟩ .empty lR
 have MU:=Lib.liesAt_bytes (P:=P) hc (cells/P.cellsOf e) l.length (by rw[hc];simpa using hn)
 have H7:¬(9223372036854775807:Int)<(l.length:Int):=by omega
 have H6:Builtin.unsafeString_ #[pt,it] ty #[.pointer (some ⟨g,0,none⟩),.int .i64 l.length]=
  (do
   let n<-asInt (.int .i64 l.length)
   if n<0 then runtimePanic (.error "unsafe.String: len out of range")
   if n>IntKind.i64.max then unsupported (.unsafePointer "String: a length above the largest int")
   if n=0 then pure (.string .empty)
   else if<-variablesAt ⟨g,0,none⟩ (<-elemOf pt) n.toNat then do
    let s<-loadBytes ⟨g,0,none⟩ .empty n.toNat
    freeze ⟨g,0,none⟩ n.toNat
    pure (.string s)
   else unsupported (.unsafePointer "String: not so many bytes at ptr")):=rfl
 rw[H6]
 have BE:IntKind.i64.max=9223372036854775807:=rfl
 have VX:¬(l.length:Int)<0:=by omega
 simp[asInt,asIntOf,BE,H7,VX,hl,variablesAt,Ep,elemOf,run_underlying hp,MU,MT]
set_option maxHeartbeats 2000000 in
set_option maxRecDepth 100000 in
theorem xe(L:Lays.n169 P ρ)(X:Builder.Extra P ρ)(b:Nat)(w W1 W2:World)(a q:Option Addr)(n cap:Nat)(s:ByteArray)(c1:w.drew.cell? ⟨b,1,none⟩=some (.slice a n cap))(c2:W1.cell? ⟨b,1,none⟩=some (.slice a n cap))
 (hSD:(Builtin.unsafeSliceData_ #[(ρ.t 37)] (ρ.t 127) #[.slice a n cap]).run P w.drew=.ok (.pointer q) W1) (hUS:(Builtin.unsafeString_ #[(ρ.t 127),(ρ.t 3)] (ρ.t 9) #[.pointer q,.int .i64 n]).run P W1=.ok (.string s) W2):
 Calls P (ρ.f 169) #[.pointer (some ⟨b,0,none⟩)] w λe w'=>e=.returned (.string s)/\w'=W2:=by
 have mixed:=L.mixed
 have u72:=run_underlying L.t72
 have t37:=L.t37;have a37:=L.a37;have z37:=L.z37;have u37:=run_underlying L.t37
 go_enter L.f169,Body.n169_ntmps ρ
 go_wp2
 go_region_o
 all_goals(go_wp2;go_ret;exact⟨rfl,rfl⟩)
theorem VY(L:Lays.n169 P ρ)(X:Builder.Extra P ρ){ty:TypeId}(b:Nat)(w W1:World)(p:Value)(a q:Option Addr)(cap:Nat)(Ae:w.heap[b]?=some (.cells #[p,.slice a 0 cap] ty (0,0)))
 (hSD:(Builtin.unsafeSliceData_ #[(ρ.t 37)] (ρ.t 127) #[.slice a 0 cap]).run P w.drew=.ok (.pointer q) W1) (hW:W1=w.drew\/∃o,W1=w.drew.alloc o):
 Calls P (ρ.f 169) #[.pointer (some ⟨b,0,none⟩)] w (u6 w none []):=by
 have cj:b<w.heap.size:=(Array.getElem?_eq_some_iff.1 Ae).1
 have c1:w.drew.cell? ⟨b,1,none⟩=some (.slice a 0 cap):=by
  have:w.drew.heap[b]?=some (.cells #[p,.slice a 0 cap] ty (0,0)):=Ae
  rw[Lib.cell_of_heap this];rfl
 have c2:W1.cell? ⟨b,1,none⟩=some (.slice a 0 cap):=by
  rcases hW with rfl|⟨o,rfl⟩
  ·exact c1
  ·have:(w.drew.alloc o).heap[b]?=_:=(Lib.alloc_old w.drew _ b cj).trans Ae
   rw[Lib.cell_of_heap this];rfl
 refine(xe L X b w W1 W1 a q 0 cap .empty c1 c2 hSD (Any.unsafeString_none L X W1 q)).mono ?_
 rintro e w' ⟨rfl,rfl⟩
 rcases hW with rfl|⟨o,rfl⟩
 ·exact qae w
 ·exact vF w o
theorem Zev(L:Lays.n169 P ρ)(X:Builder.Extra P ρ){ty:TypeId}(b:Nat)(w:World)(p:Value)(a:Option Addr)(ha:Ac w.heap.size a)(Ae:w.heap[b]?=some (.cells #[p,.slice a 0 0] ty (0,0))):
 Calls P (ρ.f 169) #[.pointer (some ⟨b,0,none⟩)] w (u6 w none []):=by
 cases a with
 |none=>exact VY L X b w w.drew p none none 0 Ae rfl (.inl rfl)
 |some a=>
  obtain⟨q,W,h1,h2⟩:=Zh9 (P:=P) (W:=w.drew) #[(ρ.t 37)] (ρ.t 127) (ρ.t 5) L.t127 a 0 (ha a rfl)
  exact VY L X b w W p (some a) q 0 Ae h1 h2
theorem qG(L:Lays.n169 P ρ)(X:Builder.Extra P ρ){ty:TypeId}(b g:Nat)(w:World)(p:Value)(cur:Array Value)(l:List Int)(AL:l≠[])(Ae:w.heap[b]?=some (.cells #[p,.slice (some ⟨g,0,none⟩) l.length cur.size] ty (0,0)))
 (hg:w.heap[g]?=some (.cells cur (ρ.t 5) (0,0))) (hn:l.length<=cur.size) (hm:cur.size<=maxLen) (hc:∀(j:Nat) (x:Int),l[j]?=some x->cur[j]?=some (Value.int .u8 x)):
 Calls P (ρ.f 169) #[.pointer (some ⟨b,0,none⟩)] w (u6 w (some g) (bytesOf l)):=by
 have gg:l.length≠0:=by simpa using AL
 have Sc:w.drew.heap[g]?=some (.cells cur (ρ.t 5) (0,0)):=hg
 have c1:w.drew.cell? ⟨b,1,none⟩=some (.slice (some ⟨g,0,none⟩) l.length cur.size):=by
  have:w.drew.heap[b]?=some (.cells #[p,.slice (some ⟨g,0,none⟩) l.length cur.size] ty (0,0)):=Ae
  rw[Lib.cell_of_heap this];rfl
 refine(xe L X b w w.drew _ _ _ _ _ _ c1 c1 (Lib.run_unsafeSliceData_row _ _ _ _ _ _ (by omega)) (Zls (ρ.t 127) (ρ.t 3) (ρ.t 9) (ρ.t 5) L.t127 X.cellsByte g cur.size (by simp[World.shape?,Sc]) l AL hn (by unfold maxLen at hm;omega) λj x hx=>?_)).mono ?_
 ·rw[Addr.add_lit,aX,Lib.cell_of_heap Sc]
  exact hc j x hx
 ·rintro e w' ⟨rfl,rfl⟩
  exact qe w g l.length (bytesOf l)
theorem xae(L:Lays.n169 P ρ)(X:Builder.Extra P ρ){ty:TypeId}(b g:Nat)(w:World)(p:Value)(cur:Array Value)(l:List Int)(Ae:w.heap[b]?=some (.cells #[p,.slice (some ⟨g,0,none⟩) l.length cur.size] ty (0,0)))
 (hg:w.heap[g]?=some (.cells cur (ρ.t 5) (0,0))) (hn:l.length<=cur.size) (hm:cur.size<=maxLen) (hc:∀(j:Nat) (x:Int),l[j]?=some x->cur[j]?=some (Value.int .u8 x)):
 Calls P (ρ.f 169) #[.pointer (some ⟨b,0,none⟩)] w (u6 w (some g) (bytesOf l)):=by
 by_cases AL:l=[]
 ·subst AL
  have cj:g<w.heap.size:=(Array.getElem?_eq_some_iff.1 hg).1
  have hs:∀e w',u6 w none [] e w'->u6 w (some g) (bytesOf []) e w':=λe w' h=>zae g h λ_ _ _ _=>cj
  by_cases h0:cur.size=0
  ·rw[h0]at Ae
   exact(Zev L X b w p (some ⟨g,0,none⟩) (λx e=>by cases e;exact cj) Ae).mono hs
  ·exact(VY L X b w w.drew p (some ⟨g,0,none⟩) (some ⟨g,0,none⟩) cur.size Ae (Lib.run_unsafeSliceData_row _ _ _ _ _ _ h0) (.inl rfl)).mono hs
 ·exact qG L X b g w p cur l AL Ae hg hn hm hc
theorem xG(L:Lays.n240 P ρ)(X:Builder.X72 P ρ){ty u:TypeId}(hl:liesAt P P.depth ty (2/P.cellsOf ty) 0 (ρ.t 72) 1=true)(E:ak):
 jZ P (ρ.f 240) [.ptr 0 0 0] [⟨true,ty,2,.gen [[.cy 0,.all 1]]⟩,⟨false,u,1,E⟩] (.dt []) [⟨true,ty,2,.gen [[.cy 0,.all 1]]⟩,⟨false,u,1,E⟩]:=
 Zc6 (λb w x h=>yF L X hl b w x h) (λb w x h=>xad L X b w x h) E
theorem ze(hf:ρ.f 169<YB)(L:Lays.n169 P ρ)(X:Builder.Extra P ρ){ty:TypeId}(l:List Int):
 r9 P (ρ.f 169) 1 [.ptr 0 0 0] [⟨true,ty,2,.gen [[.cy 0,.all 1]]⟩,⟨false,ρ.t 5,1,.ints .u8 l⟩] (.str (bytesOf l)) [⟨true,ty,2,.gen [[.cy 0,.sl 1 (.ints .u8 l) false]]⟩]:=
 vd hf (λb w p a ha h=>Zev L X b w p a ha h) (λb g w p cur l h1 h2 h3 h4 h5=>xae L X b g w p cur l h1 h2 h3 h4 h5) l
end Go.GD
namespace Go.GD
open Go
theorem jZ.BF{P:Program}{f:FuncId}{args:List D}{res:D}(h:∀(c:Ctx) (w:World) (vs:List Value),sT c.I w->jY c w args vs->Calls P f vs.toArray w λe w'=>∃v,e=.returned v/\(∀c',Rep c' w' res v)/\RowKit.Below w.heap.size w w'):jZ P f args [] res []:=by
 intro c w vs hm hb hR ha
 refine(h c w vs hm.kC ha).mono λe w' hq=>?_
 obtain⟨v,he,hr,h1,h2,h3,h4,h5⟩:=hq
 have FV:∀r x,c.R r=some x->False:=λr x hx=>by rw[hR]at hx;simp at hx
 refine⟨v,c,he,⟨⟨λr x hx=>(FV r x hx).elim,λr s x y hx=>(FV r x hx).elim,λb iq=>⟨bI (hm.fh b iq).1 h4,λr x hx=>(FV r x hx).elim⟩,bH hm.top h4,hm.kC.mono λb hb=>⟨hb,h5 b (hm.fh b hb).1⟩⟩,⟨rfl,aO _,λb iq=>⟨iq,h5 b (hm.fh b iq).1⟩,λr x hx=>(FV r x hx).elim⟩,⟨h1,h2,h3,h4,λb s7 _=>h5 b s7⟩,λb iq=>.inl iq,λr x hx=>(FV r x hx).elim⟩,hR,hr c⟩
theorem jZ.BG{P:Program}{f:FuncId}{args:List D}{res:D}(h:∀(c:Ctx) (w:World) (vs:List Value),jY c w args vs->Calls P f vs.toArray w λe w'=>∃v,e=.returned v/\(∀c',Rep c' w' res v)/\RowKit.Below w.heap.size w w'):jZ P f args [] res []:=
 .BF λc w vs _ ha=>h c w vs ha
theorem ye{P:Program}{f:FuncId}(H:∀(s:ByteArray) (c:Nat) (w:World),c<=9223372036854775807->s.size*c<=140737488355328->Calls P f #[.string s,.int .i64 c] w λe w'=>e=.returned (.string ⟨(Lib.repeatL s.data.toList c).toArray⟩)/\RowKit.Below w.heap.size w w')
 {s:List UInt8} {n:Int} (h0:0<=n) (h1:n<=9223372036854775807) (h2:s.length*n.toNat<=140737488355328):jZ P f [.str s,.int .i64 n] [] (.str (Lib.repeatL s n.toNat)) []:=by
 refine jZ.BG λc w vs ha=>?_
 match vs,ha with
 |[u,v],ha=>
  have hu:u=.string ⟨s.toArray⟩:=ha.1
  have hv:v=.int .i64 n:=ha.2.1
  subst hu;subst hv
  have hn:((n.toNat:Nat):Int)=n:=Int.toNat_of_nonneg h0
  have:=H ⟨s.toArray⟩ n.toNat w (by omega) (by simpa[ByteArray.size]using h2)
  rw[hn]at this
  exact this.mono λe w' ⟨he,hb⟩=>⟨_,he,λc'=>by simp[Rep,VRep,cu],hb⟩
theorem sT.var{I:ab}{w:World}(h:sT I w){P:Program}{name:String}{g:Nat}{k:IntKind}{l:List Int}(hg:P.globalNamed name=some g)(hm:(g,k,l)∈JM):Lib.TabIs P w name k l:=by
 obtain⟨_,ty,fz,h2⟩:=h _ hm
 unfold Lib.TabIs World.var?
 rw[hg]
 simp only[Option.bind_some,h2]
theorem sT.at{I:ab}{w:World}(h:sT I w){g:Nat}{l:List Nat}(hm:(g,IntKind.u8,l.map λ(n:Nat)=>(n:Int))∈JM):Proofs.TabAt g l w:=by
 obtain⟨_,ty,fz,h2⟩:=h _ hm
 intro j hj
 simp only[World.cell?,h2]
 simp[hj]
theorem qaf{P:Program}{f:FuncId}{g:Nat}(H:∀(n:Int),-9223372036854775808<=n->n<=9223372036854775807->∀w:World,Lib.TabIs P w "internal/strconv.uint64pow10" .u64 Lib.pow10Tab->Calls P f #[.int .i64 n] w λe w'=>e=.returned (.string ⟨(Lib.itoa n).toArray⟩)/\∃k os,w'=Sort.grow (w.drewN k) os)(hg:P.globalNamed "internal/strconv.uint64pow10" =some g)(hm:(g,IntKind.u64,Lib.pow10Tab)∈JM){n:Int}(h0:0<=n)(h1:n<=9223372036854775807):jZ P f [.int .i64 n] [] (.str (Lib.decDigits n.toNat)) []:=by
 refine jZ.BF λc w vs ht ha=>?_
 match vs,ha with
 |[v],ha=>
  have hv:v=.int .i64 n:=ha.1
  subst hv
  refine(H n (by omega) h1 w (ht.var hg hm)).mono λe w' ⟨he,k,os,hb⟩=>⟨_,he,λc'=>?_,?_⟩
  ·rw[Lib.itoa,if_neg (by omega)]
   simp[Rep,VRep,cu]
  ·subst hb
   refine⟨rfl,rfl,rfl,?_,λb hb=>?_⟩
   ·show w.heap.size<=(w.heap++os).size
    simp
   ·show(w.heap++os)[b]?=_
    rw[Array.getElem?_append_left (show b<w.heap.size from hb)]
