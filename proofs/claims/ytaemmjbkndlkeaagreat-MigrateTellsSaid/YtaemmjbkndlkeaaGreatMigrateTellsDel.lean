import Derived.Test.YtaemmjbkndlkeaaGreatMigrateTellsFh
import Derived.OwnWalk
import Derived.Deep.RegionLaw
import Derived.Deep.LoopGhost
import Derived.Shelf.RegionOpenPlain
open Bool renaming false_eq_true->aA
open Nat renaming add_zero->aB,min_eq_left->aH
open List renaming length_take->aD,getElem?_take->aF,length_drop->aG,getElem?_eq_getElem->aI,getElem?_eq_none->aJ,size_toArray->aK,append_assoc->aM
open Array renaming length_toList->aL
set_option linter.all false
open Go Go.Proofs
open Go.RowKit
namespace Go.GD
variable {b o:Nat}{cur:Array Value}{t:TypeId}{w:World}
theorem xG{c:Ctx}(hm:Mem c w){r k:Nat}{row aq:Row}{cur arr:Array Value}(hr:c.R r=some row)(hV:¬c.V r)(Cm:(c.kill [r]).R k=none)(hh:w.heap[c.ρ r]?=some (.cells cur row.ty (0,0)))(Lo:aq.ty=row.ty)(h0:0<aq.sz)(hb:aq.box=false)
 (hE:∀w',(∀b,c.I b->w'.heap[b]?=w.heap[b]?)->im c.I w' aq.es.l arr 0 aq.sz):
 ju (c.kill [r]) w ((c.kill [r]).add k aq (c.ρ r)) (w.setRow (c.ρ r) arr)/\Mem ((c.kill [r]).add k aq (c.ρ r)) (w.setRow (c.ρ r) arr):=by
 have uF:=Up (ks:=[r]) hm
 have nJ:∀s x,(c.kill [r]).R s=some x->s≠r/\s≠k:=λs x hs=>by
  obtain⟨h1,j0,h2,_⟩:=nK hs
  refine⟨λe=>?_,λe=>by rw[e,Cm]at hs;cases hs⟩
  rw[e]at h1
  have:=oy (r:=r) (l:=[r])
  simp[h1]at this
 have fe:(w.setRow (c.ρ r) arr).heap[c.ρ r]?=some (.cells arr row.ty (0,0)):=setRow_heap w _ _ _ _ _ hh
 have sJ:∀s x,(c.kill [r]).R s=some x->¬c.V s->(w.setRow (c.ρ r) arr).heap[c.ρ s]?=w.heap[c.ρ s]? :=λs x hs v=>setRow_other w _ _ _ λe=>by
  obtain⟨_,j0,h2,_⟩:=nK hs
  exact(nJ s x hs).1 (hm.inj s r j0 row h2 hr v hV e)
 have hI:∀b,c.I b->(w.setRow (c.ρ r) arr).heap[b]?=w.heap[b]? :=λb hb=>setRow_other w _ _ _ (λe=>(hm.fk b hb).2 r row hr hV e.symm)
 have hg:ju (c.kill [r]) w ((c.kill [r]).add k aq (c.ρ r)) (w.setRow (c.ρ r) arr):=by
  refine⟨rfl,Nat.le_refl _,λb hb=>⟨hb,hI b hb⟩,λs x hs=>?_⟩
  obtain⟨n1,n2⟩:=nJ s x hs
  exact⟨x,by simp[Ctx.add,n2,hs],rfl,rfl,rfl,rfl,by simp[Ctx.add,n2],by simp[Ctx.add,n2],λv a ha=>⟨a,(sJ s x hs v).trans ha,rfl⟩⟩
 have inv:∀s x,((c.kill [r]).add k aq (c.ρ r)).R s=some x->¬((c.kill [r]).add k aq (c.ρ r)).V s->(s=k/\((c.kill [r]).add k aq (c.ρ r)).ρ s=c.ρ r)\/(s≠k/\s≠r/\((c.kill [r]).add k aq (c.ρ r)).ρ s=c.ρ s/\¬c.V s/\∃y,c.R s=some y):=λs x hs v=>by
  by_cases e:s=k
  ·exact .inl ⟨e,by simp[Ctx.add,e]⟩
  ·have jk:(c.kill [r]).R s=some x:=by simpa[Ctx.add,e]using hs
   obtain⟨_,y,hy,_⟩:=nK jk
   have v':¬c.V s:=λh=>v (by simp only[Ctx.add];exact⟨e,h⟩)
   exact .inr ⟨e,(nJ s x jk).1,by simp[Ctx.add,e,Ctx.kill],v',y,hy⟩
 refine⟨hg,⟨λs x hs=>?_,λs q x y hs hq v1 v2 he=>?_,λb ik=>?_,by show c.top<=(w.setRow _ _).heap.size;simpa[World.setRow]using hm.top,hm.kb.mono hg.I⟩⟩
 ·by_cases e:s=k
  ·subst e
   simp only[Ctx.add,if_true,Option.some.injEq]at hs
   subst hs
   refine .inr ⟨by simp[Ctx.add],arr,by simp only[Ctx.add,if_true];rw[Lo];exact fe,h0,?_⟩
   rw[hb]
   simp only[aA,if_false]
   exact hE _ hI
  ·have jk:(c.kill [r]).R s=some x:=by simpa[Ctx.add,e]using hs
   exact uf hg (by simp[Ctx.add,e]) (by simp[Ctx.add,e]) (λv=>sJ s x jk v) (uF.row s x jk)
 ·rcases inv s x hs v1 with⟨e1,p1⟩|⟨e1,p1,p2,p3,y1,p4⟩<;>rcases inv q y hq v2 with⟨e2,q1⟩|⟨e2,q1,q2,q3,y2,q4⟩
  ·rw[e1,e2]
  ·rw[p1,q2]at he
   exact(q1 (hm.inj q r y2 row q4 hr q3 hV he.symm)).elim
  ·rw[p2,q1]at he
   exact(p1 (hm.inj s r y1 row p4 hr p3 hV he)).elim
  ·rw[p2,q2]at he
   exact hm.inj s q y1 y2 p4 q4 p3 q3 he
 ·refine⟨by simpa[World.setRow]using(hm.fk b ik).1,λs x hs v=>?_⟩
  rcases inv s x hs v with⟨e1,p1⟩|⟨e1,p1,p2,p3,y1,p4⟩
  ·rw[p1];exact(hm.fk b ik).2 r row hr hV
  ·rw[p2];exact(hm.fk b ik).2 s y1 p4 p3
theorem Zoc{vs:List Value}(hg:w.heap[b]?=some (.cells cur t (0,0)))(nq:o+vs.length<=cur.size)(h1:∀v∈vs,v.oneCell'=true):
 w.setCells b o vs=w.setRow b (cur.toList.take o++vs++cur.toList.drop (o+vs.length)).toArray:=by
 have hc:∀j,j<vs.length->(w.cell? ⟨b,o+0+j,none⟩).isSome=true/\w.frozen? ⟨b,o+0+j,none⟩=false:=λj hj=>by
  constructor
  ·have:o+j<cur.size:=by omega
   simp[World.cell?,hg,this]
  ·simp[World.frozen?,hg]
 have e1:=run_storeCells_cells (P:=default) b o vs 0 w (λj hj=>(hc j hj).1) (λj hj=>(hc j hj).2) h1
 have e2:=run_storeCells_at (P:=default) b o t vs 0 cur w hg (by omega) h1
 rw[e1]at e2
 simp only[aB,Result.ok.injEq,true_and]at e2
 exact e2
theorem Zp0{P:Program}{t e ty:TypeId}{z:Value}{b o m c:Nat}(ht:P.underlying t=some (.slice e))(hv:∀w,(zeroValue e).run P w=.ok z w)(hz:∀v∈z.cells.toList,v.oneCell'=true)
 (hm:0<m) (hg:w.heap[b]?=some (.cells cur e (0,0))) (nq:o+m*z.cells.size<=cur.size):
 (Builtin.clear_ #[t] ty #[.slice (some ⟨b,o,none⟩) m c]).run P w=.ok (.tuple #[]) (w.setRow b (cur.toList.take o++(Builtin.zeroCells z.cells m).toList++cur.toList.drop (o+m*z.cells.size)).toArray):=by
 have hl:(Builtin.zeroCells z.cells m).toList.length=m*z.cells.size:=by simp[size_zeroCells]
 have h1:∀v∈(Builtin.zeroCells z.cells m).toList,v.oneCell'=true:=by
  intro v Fj
  simp only[Builtin.zeroCells,Array.mem_toList_iff,Array.mem_map,Array.mem_range]at Fj
  obtain⟨i,hi,rfl⟩:=Fj
  have h0:0<z.cells.size:=Nat.pos_of_ne_zero λe=>by rw[e]at hi;simp at hi
  have bc:i%z.cells.size<z.cells.size:=Nat.mod_lt _ h0
  rw[getElem!_pos z.cells _ bc]
  exact hz _ (by simp)
 have kj:=run_storeCells_at (P:=P) b o e (Builtin.zeroCells z.cells m).toList 0 cur w hg (by omega) h1
 simp only[aB,hl]at kj
 obtain⟨k,rfl⟩:∃k,m=k+1:=⟨m-1,by omega⟩
 simp[Builtin.clear_,run_underlying ht,hv,kj]
end Go.GD
namespace Go.Proofs.YtaemmjbkndlkeaaGreat
open Go.GD
variable {I:ab}{arr:Array Value}{i j sz:Nat}{w:World}
theorem I1:(pG.info? 80).map (λi=>(i.zero.isSome,i.size))=some (true,54):=by kernel_rfl
set_option maxHeartbeats 4000000 in
set_option maxRecDepth 1000000 in
theorem yG (b n cap i j : Nat) (news:List Value)(w W2:World)(Lp:i<j)(hj:j<=n)(hn:n<=cap)(hm:cap<=9223372036854775807)
   (hlen:news.length=(n-j)*54) (iy: ∀t u,news[t]? =some u->w.drew.cell? ⟨b,j*54+t,none⟩=some u) (h1: ∀u∈news,u.oneCell'=true)
   (I2: ∀t,t<news.length->(w.drew.cell? ⟨b,0+i*54+t,none⟩).isSome=true/\w.drew.frozen? ⟨b,0+i*54+t,none⟩=false)
   (jH: ∀ty,(Builtin.clear_ #[49] ty #[.slice (some ⟨b,(i+(n-j))*54,none⟩) (n-(i+(n-j))) (cap-(i+(n-j)))]).run pG (w.drew.setCells b (0+i*54) news)= .ok (.tuple #[]) W2):
   Calls pG 102 #[.slice (some ⟨b,0,none⟩) n cap, .int .i64 i, .int .i64 j] w λe w'=>e= .returned (.slice (some ⟨b,0,none⟩) (i+(n-j)) cap)/\w'=W2:=by
  obtain⟨i0,rp,I3⟩: ∃i0,pG.info? 80=some i0/\i0.size=54:=by
    obtain⟨i,hi,AK⟩:=Option.map_eq_some_iff.1 I1
    simp only[Prod.mk.injEq]at AK
    exact⟨i,hi,AK.2⟩
  obtain ⟨A, hA, kf⟩ : ∃ A : Addr, (if cap=j then some (⟨b,0,none⟩:Addr) else some ⟨b,j*54,none⟩)=some A/\Hid (∀t u,news[t]? =some u->w.drew.cell? (A.add t)=some u):=by
    by_cases h:cap=j
    . refine ⟨⟨b, 0, none⟩, by simp [h],λt u hu=> ?_⟩
      have h0 : news.length = 0 := by rw[hlen];have:n-j=0:=by omega
                                      rw[this]
      rw[List.length_eq_zero_iff.1 h0]at hu
      simp at hu
    . refine⟨⟨b,j*54,none⟩,by simp [h],λt u hu=> ?_⟩
      rw[Addr.add_lit]
      exact iy t u hu
  have s1:Hid (news.length=(n-j)*54):=hlen
  have s2:Hid (∀u∈news,u.oneCell'=true):=h1
  have s3:Hid (∀t,t<news.length->(w.drew.cell? ⟨b,0+i*54+t,none⟩).isSome=true/\w.drew.frozen? ⟨b,0+i*54+t,none⟩=false):=I2
  obtain⟨W1,Lq⟩: ∃W1,W1=w.drew.setCells b (0+i*54) news:=⟨_,rfl⟩
  rw[<-Lq]at jH
  have hW:Hid (W1=w.drew.setCells b (0+i*54) news):=Lq
  have Yb:i<=cap:=by omega
  have hjc:j<=cap:=by omega
  have ia: ¬(i=j):=by omega
  have mixed:pG.follows Departure.mixedOrders=true:=by kernel_rfl
  clear Lq iy hlen h1 I2
  go_enter Tryz.func102,Tryz.ntmps102
  go_wp2_with fail
  go_region_law_o (refine step_append_room rfl (.tmp 22) (.tmp 25) 49 rfl 80 i0 54 Tryz.underlying49 rp I3 b 0 i cap (by simp [Act.eval,Act.put]) A (n-j) (cap-j) news (by simp [Act.eval,Act.put]) s1.out kf.out s2.out (by omega) s3.out ?_;rw[<-hW.out])
  go_wp2
  go_ret
  exact⟨rfl,rfl⟩
theorem vG{es:List (List D)}(h:im I w es arr 0 sz):im I w (es.take i) arr 0 sz:=by
 rw[Q4]at h⊢
 intro t ht
 rw[aD]at ht
 have e:(es.take i).getD t []=es.getD t []:=by simp[List.getD,aF,show t<i by omega]
 rw[e];exact h t (by omega)
theorem qH{es:List (List D)}(h:im I w es arr 0 sz):im I w (es.drop j) arr (j*sz) sz:=by
 rw[Q4]at h⊢
 intro t ht
 rw[aG]at ht
 have e:(es.drop j).getD t []=es.getD (j+t) []:=by simp[List.getD]
 have:=h (j+t) (by omega)
 rw[e,show j*sz+t*sz=0+(j+t)*sz by rw[Nat.add_mul];omega]
 exact this
theorem qa{E E':ag}(Lp:i<j)(hj:j<=E.l.length)(hE':E'.l=E.l.take i++E.l.drop j):
 uG pG 102 0 [.all 0,.int .i64 i,.int .i64 j] [⟨false,80,54,E⟩] (.all 0) [⟨false,80,54,E'⟩]:=by
 intro c w vs hm hb hR ha
 match vs,ha with
 |[u,vi,vj],ha=>
  have Yc:vi=.int .i64 i:=ha.2.1
  have hvj:vj=.int .i64 j:=ha.2.2.1
  subst Yc;subst hvj
  obtain⟨row,q1,q2,hv⟩:=(ha.1:dc c w (.all 0) u)
  have c6:row=⟨false,80,54,E⟩:=by rw[hR]at q1;exact(Option.some.inj q1).symm
  subst c6
  rcases hv with⟨hV,a,hv,_⟩|⟨hV,cap,arr,hv,h1,h2,h3,h4⟩
  ·have he:=(hm.nZ q1 hV).2.1
   simp only at he
   rw[he]at hj;simp at hj;omega
  ·obtain⟨Oj,jV,_,Cn⟩:=hm.real q1 hV
   simp only at h1 h3 h4 hv jV
   rw[h3]at jV;cases jV
   simp only[aA,if_false]at Cn
   subst hv
   obtain⟨z,hz,BE,I3⟩:∃z:Value,(∀w,(zeroValue 80).run pG w=.ok z w)/\z.cells.size=54/\(z.cells.toList.all Value.oneCell')=true:=⟨_,Tryz.zeroValue80,by kernel_rfl,by kernel_rfl⟩
   generalize hn:E.l.length=n at*
   obtain⟨A,a1,a2,a3⟩:=Uq (vG (i:=i) Cn) (by omega)
   obtain⟨B,b1,b2,b3⟩:=Uq (qH (j:=j) Cn) (by omega)
   rw[aD,hn,aH (by omega)]at a1
   rw[aG,hn]at b1
   have hd:w.drew.heap[c.ρ 0]?=some (.cells arr 80 (0,0)):=h3
   have hB1:=im.one b3 (by rw[aG,hn];exact b1)
   have nq:0+i*54+B.length<=arr.size:=by omega
   have hA:arr.toList.take (0+i*54)=A:=by
    apply List.ext_getElem?
    intro t
    by_cases ht:t<A.length
    ·have:=a2 t _ (aI ht)
     rw[aF,if_pos (by omega),aI ht]
     simpa using this
    ·rw[aJ (by rw[aD];omega),aJ (by omega)]
   obtain⟨oa,Co⟩:∃oa:Array Value,oa=(arr.toList.take (0+i*54)++B++arr.toList.drop (0+i*54+B.length)).toArray:=⟨_,rfl⟩
   have Lq:w.drew.setCells (c.ρ 0) (0+i*54) B=w.drew.setRow (c.ρ 0) oa:=by rw[Co];exact Zoc hd nq hB1
   have mj:oa.size=arr.size:=by
    rw[Co]
    simp only[aK,lA,aD,aG,aL]
    omega
   have Ok:(w.drew.setRow (c.ρ 0) oa).heap[c.ρ 0]?=some (.cells oa 80 (0,0)):=setRow_heap w.drew _ _ _ _ _ hd
   obtain⟨Cp,Cq⟩:∃Cp:Array Value,Cp=(oa.toList.take ((i+(n-j))*54)++(Builtin.zeroCells z.cells (n-(i+(n-j)))).toList++oa.toList.drop ((i+(n-j))*54+(n-(i+(n-j)))*z.cells.size)).toArray:=⟨_,rfl⟩
   have jH:=λty=>Zp0 (P:=pG) (ty:=ty) (c:=cap-(i+(n-j))) Tryz.underlying49 hz (List.all_eq_true.1 I3) (m:=n-(i+(n-j))) (o:=(i+(n-j))*54) (by omega) Ok (by rw[BE,mj];omega)
   rw[<-Cq,<-Lq]at jH
   have Ol:Cp.size=arr.size:=by
    rw[Cq]
    simp only[aK,lA,aD,aG,aL,size_zeroCells,BE,mj]
    omega
   have Om:=yG (c.ρ 0) n cap i j B w _ Lp hj h1 (by have:=h2;unfold maxLen at this;omega) b1
    (λt u hu=>by have:=b2 t u hu;simp[World.cell?,hd,this]) hB1
    (λt ht=>by have this:=(show i*54+t<arr.size from(by omega));simp[World.cell?,World.frozen?,hd,this]) jH
   refine G8.real (by decide) (Om.mono λe w' hq=>?_)
   obtain⟨he,rfl⟩:=hq
   rw[Lq,setRow_setRow]
   have On:oa.toList.take ((i+(n-j))*54)=A++B:=by
    rw[Co,hA]
    simp only[aM]
    rw[<-aM,List.take_left' (by rw[lA,a1,b1,Nat.add_mul])]
   have uF:=I4 hm
   obtain⟨k1,k2⟩:=xG uF (k:=0) (aq:=⟨false,80,54,E'⟩) (arr:=Cp) q1 hV (by simp[Ctx.kill,da]) hd rfl (by omega) rfl (λw' h=>by
    rw[hE',Cq,On]
    simp only[aM]
    rw[<-aM]
    exact Ur (ob (w:=w) (λb hb=>⟨hb,h b hb⟩) _ _ _ _ a3) (by rw[aD,hn,aH (by omega)];exact a1) (ob (w:=w) (λb hb=>⟨hb,h b hb⟩) _ _ _ _ b3) (by rw[aG,hn];exact b1))
   have rr:E'.l.length=i+(n-j):=by rw[hE',lA,aD,aG,hn];omega
   refine⟨_,_,he,⟨k2,(Lr (c.kill [0]) w).trans k1,?_,λb hb=>.inl hb,λq aq p1 p2=>?_⟩,λr=>?_,?_⟩
   ·exact Fr.trans (w':=w.drew) ⟨rfl,rfl,rfl,Nat.le_refl _,λ_ _ _=>rfl⟩ ((Us w.drew _ _).mono λb _ hb=>⟨0,_,q1,hV,hb.symm⟩)
   ·by_cases e1:q=0
    ·subst e1
     exact .inr (.inl ⟨0,_,by simp[da],q1,hV,by simp[Ctx.add]⟩)
    ·have sK:(c.kill [0]).R q=some aq:=by simpa[Ctx.add,e1]using p1
     obtain⟨_,j0,Oo,_⟩:=nK sK
     exact .inl ⟨⟨j0,Oo⟩,by simpa[Ctx.add,e1,Ctx.kill]using p2,by simp[Ctx.add,e1,Ctx.kill]⟩
   ·by_cases e:r=0
    ·subst e;simp[Ctx.add]
    ·have:c.R r=none:=by rw[hR];simp[e]
     simp[Ctx.add,e,Ctx.kill,this]
   ·refine⟨⟨false,80,54,E'⟩,by simp[Ctx.add],rfl,.inr ⟨by simp[Ctx.add],cap,Cp,?_,by simp only;omega,h2,?_,?_⟩⟩
    ·simp only[Ctx.add,if_true,rr]
    ·simp only[Ctx.add,if_true];exact setRow_heap w.drew _ _ _ _ _ hd
    ·simp only;rw[Ol];exact h4
