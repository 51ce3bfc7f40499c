import Derived.OwnWalk
import Derived.Deep.RegionLaw
import Derived.Deep.LoopGhost
import Derived.Shelf.RegionOpenPlain
import Derived.Test.YtoijmgbahaekiaaGreatTopJournalFh
import Derived.Shelf.Spec.SlicesInsertGrow
open Nat renaming le_refl->aO,add_zero->bH,min_eq_left->cM,zero_add->aX,le_trans->bI,le_mul_of_pos_right->cU,mul_le_mul_right->aV,mul_le_mul_left->cY
open Bool renaming false_eq_true->aN
open List renaming length_take->bD,getElem?_take->aU,length_drop->bG,ext_getElem?->cN,getElem?_eq_getElem->cI,getElem?_eq_none->aM,size_toArray->bA,append_assoc->cP,take_left'->cQ,getElem?_drop->cR,mem_of_mem_drop->cS,drop_left'->cX,append_nil->cL
open Array renaming length_toList->cO,size_append->cV,ext'->cW
set_option linter.all false
open Go Go.Proofs
open Go.RowKit
namespace Go.GD
theorem Zae{c:Ctx}{w:World}(hm:Mem c w){r k:Nat}{row row':Row}{cur arr:Array Value}(hr:c.R r=some row)(hV:¬c.V r)(hkk:(c.kill [r]).R k=none)(hh:w.heap[c.ρ r]?=some (.cells cur row.ty (0,0)))(hty:row'.ty=row.ty)(h0:0<row'.sz)(hb:row'.box=false)
 (hE:∀w',(∀b,c.I b->w'.heap[b]?=w.heap[b]?)->Q15 c.I w' row'.es.l arr 0 row'.sz):
 Q2n (c.kill [r]) w ((c.kill [r]).add k row' (c.ρ r)) (w.setRow (c.ρ r) arr)/\Mem ((c.kill [r]).add k row' (c.ρ r)) (w.setRow (c.ρ r) arr):=by
 have hmk:=Qhn (ks:=[r]) hm
 have hno:∀s x,(c.kill [r]).R s=some x->s≠r/\s≠k:=λs x hs=>by
  obtain⟨h1,row0,h2,_⟩:=Q2b hs
  refine⟨λe=>?_,λe=>by rw[e,hkk]at hs;cases hs⟩
  rw[e]at h1
  have:=Q2i (r:=r) (l:=[r])
  simp[h1]at this
 have hnew:(w.setRow (c.ρ r) arr).heap[c.ρ r]?=some (.cells arr row.ty (0,0)):=setRow_heap w _ _ _ _ _ hh
 have hoth:∀s x,(c.kill [r]).R s=some x->¬c.V s->(w.setRow (c.ρ r) arr).heap[c.ρ s]?=w.heap[c.ρ s]? :=λs x hs v=>setRow_other w _ _ _ λe=>by
  obtain⟨_,row0,h2,_⟩:=Q2b hs
  exact(hno s x hs).1 (hm.inj s r row0 row h2 hr v hV e)
 have hI:∀b,c.I b->(w.setRow (c.ρ r) arr).heap[b]?=w.heap[b]? :=λb hb=>setRow_other w _ _ _ (λe=>(hm.imm b hb).2 r row hr hV e.symm)
 have hg:Q2n (c.kill [r]) w ((c.kill [r]).add k row' (c.ρ r)) (w.setRow (c.ρ r) arr):=by
  refine⟨rfl,aO _,λb hb=>⟨hb,hI b hb⟩,λs x hs=>?_⟩
  obtain⟨n1,n2⟩:=hno s x hs
  exact⟨x,by simp[Ctx.add,n2,hs],rfl,rfl,rfl,rfl,by simp[Ctx.add,n2],by simp[Ctx.add,n2],λv a ha=>⟨a,(hoth s x hs v).trans ha,rfl⟩⟩
 have inv:∀s x,((c.kill [r]).add k row' (c.ρ r)).R s=some x->¬((c.kill [r]).add k row' (c.ρ r)).V s->(s=k/\((c.kill [r]).add k row' (c.ρ r)).ρ s=c.ρ r)\/(s≠k/\s≠r/\((c.kill [r]).add k row' (c.ρ r)).ρ s=c.ρ s/\¬c.V s/\∃y,c.R s=some y):=λs x hs v=>by
  by_cases e:s=k
  ·exact .inl ⟨e,by simp[Ctx.add,e]⟩
  ·have hs':(c.kill [r]).R s=some x:=by simpa[Ctx.add,e]using hs
   obtain⟨_,y,hy,_⟩:=Q2b hs'
   have v':¬c.V s:=λh=>v (by simp only[Ctx.add];exact⟨e,h⟩)
   exact .inr ⟨e,(hno s x hs').1,by simp[Ctx.add,e,Ctx.kill],v',y,hy⟩
 refine⟨hg,⟨λs x hs=>?_,λs q x y hs hq v1 v2 he=>?_,λb hbI=>?_,by show c.top<=(w.setRow _ _).heap.size;simpa[World.setRow]using hm.top,hm.tab.mono hg.I⟩⟩
 ·by_cases e:s=k
  ·subst e
   simp only[Ctx.add,if_true,Option.some.injEq]at hs
   subst hs
   refine .inr ⟨by simp[Ctx.add],arr,by simp only[Ctx.add,if_true];rw[hty];exact hnew,h0,?_⟩
   rw[hb]
   simp only[aN,if_false]
   exact hE _ hI
  ·have hs':(c.kill [r]).R s=some x:=by simpa[Ctx.add,e]using hs
   exact Q2a hg (by simp[Ctx.add,e]) (by simp[Ctx.add,e]) (λv=>hoth s x hs' v) (hmk.row s x hs')
 ·rcases inv s x hs v1 with⟨e1,p1⟩|⟨e1,p1,p2,p3,y1,p4⟩<;>rcases inv q y hq v2 with⟨e2,q1⟩|⟨e2,q1,q2,q3,y2,q4⟩
  ·rw[e1,e2]
  ·rw[p1,q2]at he
   exact(q1 (hm.inj q r y2 row q4 hr q3 hV he.symm)).elim
  ·rw[p2,q1]at he
   exact(p1 (hm.inj s r y1 row p4 hr p3 hV he)).elim
  ·rw[p2,q2]at he
   exact hm.inj s q y1 y2 p4 q4 p3 q3 he
 ·refine⟨by simpa[World.setRow]using(hm.imm b hbI).1,λs x hs v=>?_⟩
  rcases inv s x hs v with⟨e1,p1⟩|⟨e1,p1,p2,p3,y1,p4⟩
  ·rw[p1];exact(hm.imm b hbI).2 r row hr hV
  ·rw[p2];exact(hm.imm b hbI).2 s y1 p4 p3
theorem Q9w{b o:Nat}{t:TypeId}{vs:List Value}{cur:Array Value}{w:World}(hg:w.heap[b]?=some (.cells cur t (0,0)))(hfit:o+vs.length<=cur.size)(h1:∀v∈vs,v.oneCell'=true):
 w.setCells b o vs=w.setRow b (cur.toList.take o++vs++cur.toList.drop (o+vs.length)).toArray:=by
 have hc:∀j,j<vs.length->(w.cell? ⟨b,o+0+j,none⟩).isSome=true/\w.frozen? ⟨b,o+0+j,none⟩=false:=λj hj=>by
  constructor
  ·have:o+j<cur.size:=by omega
   simp[World.cell?,hg,this]
  ·simp[World.frozen?,hg]
 have e1:=run_storeCells_cells (P:=default) b o vs 0 w (λj hj=>(hc j hj).1) (λj hj=>(hc j hj).2) h1
 have e2:=run_storeCells_at (P:=default) b o t vs 0 cur w hg (by omega) h1
 rw[e1]at e2
 simp only[bH,Result.ok.injEq,true_and]at e2
 exact e2
theorem Z3u{P:Program}{t e ty:TypeId}{z:Value}{b o m c:Nat}{cur:Array Value}{w:World}(ht:P.underlying t=some (.slice e))(hv:∀w,(zeroValue e).run P w=.ok z w)(hz:∀v∈z.cells.toList,v.oneCell'=true)
 (hm:0<m) (hg:w.heap[b]?=some (.cells cur e (0,0))) (hfit:o+m*z.cells.size<=cur.size):
 (Builtin.clear_ #[t] ty #[.slice (some ⟨b,o,none⟩) m c]).run P w=.ok (.tuple #[]) (w.setRow b (cur.toList.take o++(Builtin.zeroCells z.cells m).toList++cur.toList.drop (o+m*z.cells.size)).toArray):=by
 have hl:(Builtin.zeroCells z.cells m).toList.length=m*z.cells.size:=by simp[size_zeroCells]
 have h1:∀v∈(Builtin.zeroCells z.cells m).toList,v.oneCell'=true:=by
  intro v hv'
  simp only[Builtin.zeroCells,Array.mem_toList_iff,Array.mem_map,Array.mem_range]at hv'
  obtain⟨i,hi,rfl⟩:=hv'
  have h0:0<z.cells.size:=Nat.pos_of_ne_zero λe=>by rw[e]at hi;simp at hi
  have hlt:i%z.cells.size<z.cells.size:=Nat.mod_lt _ h0
  rw[getElem!_pos z.cells _ hlt]
  exact hz _ (by simp)
 have hst:=run_storeCells_at (P:=P) b o e (Builtin.zeroCells z.cells m).toList 0 cur w hg (by omega) h1
 simp only[bH,hl]at hst
 obtain⟨k,rfl⟩:∃k,m=k+1:=⟨m-1,by omega⟩
 simp[Builtin.clear_,run_underlying ht,hv,hst]
theorem Z9k{I:Blocks}{w:World}{es:List (List D)}{arr:Array Value}{sz i:Nat}(h:Q15 I w es arr 0 sz):Q15 I w (es.take i) arr 0 sz:=by
 rw[Q2u]at h⊢
 intro t ht
 rw[bD]at ht
 have e:(es.take i).getD t []=es.getD t []:=by simp[List.getD,aU,show t<i by omega]
 rw[e];exact h t (by omega)
theorem Z98{I:Blocks}{w:World}{es:List (List D)}{arr:Array Value}{sz j:Nat}(h:Q15 I w es arr 0 sz):Q15 I w (es.drop j) arr (j*sz) sz:=by
 rw[Q2u]at h⊢
 intro t ht
 rw[bG]at ht
 have e:(es.drop j).getD t []=es.getD (j+t) []:=by simp[List.getD]
 have:=h (j+t) (by omega)
 rw[e,show j*sz+t*sz=0+(j+t)*sz by rw[Nat.add_mul];omega]
 exact this
theorem Qmz{P:Program}(w:World){t ty e:TypeId}{i:TypeInfo}(ht:P.underlying t=some (.slice e))(hi:P.info? e=some i){b o n cap:Nat}{a:Addr}{m sc:Nat}{news:List Value}(hk:news.length=min m n*i.size)
 (hget:∀j u,news[j]?=some u->w.cell? (a.add j)=some u) (hc:∀j,j<news.length->(w.cell? ⟨b,o+j,none⟩).isSome=true/\w.frozen? ⟨b,o+j,none⟩=false) (h1:∀v∈news,v.oneCell'=true):
 (Builtin.copy_ #[t,t] ty #[.slice (some ⟨b,o,none⟩) n cap,.slice (some a) m sc]).run P w=.ok (.int .i64 (min m n:Nat)) (w.setCells b o news):=
 Qub w ht hi (by simp[Builtin.lenOf]) (run_firstCells_some w i.size (min m n) a m sc news hk hget) (λb' hb=>by
  cases hb
  have:=run_storeCells_cells (P:=P) b o news 0 w (λj hj=>by simpa using(hc j hj).1) (λj hj=>by simpa using(hc j hj).2) h1
  simpa using this) (λh=>by cases h)
theorem Qik(b:Nat)(vs:List Value)(o:Nat)(w:World)(h:∀j,j<vs.length->(w.cell? ⟨b,o+j,none⟩).isSome=true)(k:Nat)(hk:(w.cell? ⟨b,k,none⟩).isSome=true):((w.setCells b o vs).cell? ⟨b,k,none⟩).isSome=true:=by
 by_cases hin:o<=k/\k<o+vs.length
 ·have:=World.cell?_setCells_in b vs o w h (k-o) (by omega)
  rw[show o+(k-o)=k by omega]at this
  rw[this];rfl
 ·rw[World.cell?_setCells_out b vs o w ⟨b,k,none⟩ (λ_ _=>by show k<o\/o+vs.length<=k;omega)]
  exact hk
theorem Z84{c:Ctx}{w wd:World}{ids:List Nat}(hmd:Mem (c.kill ids) wd)(hg:Q2n (c.kill ids) w (c.kill ids) wd)(hsz:wd.heap.size=w.heap.size)(hf:∀X,Fr X w wd)(hR:∀r,(c.kill ids).R r=none){ET:TypeId}{sz cap:Nat}{E':Els}{arr:Array Value}(h0:0<sz)
 (hE:Q15 c.I wd E'.l arr 0 sz) (h1:E'.l.length<=cap) (h2:cap<=maxLen) (h3:cap*sz=arr.size):
 ∃c',NxtK ids c w c' (wd.alloc (.cells arr ET))/\(∀r,c'.R r=[(⟨false,ET,sz,E'⟩:Row)][r]?)/\Rep c' (wd.alloc (.cells arr ET)) (.all 0) (.slice (some ⟨w.heap.size,0,none⟩) E'.l.length cap):=by
 have hrep:=Qwt (c:=c.kill ids) (w:=wd) (k:=0) (e:=ET) (sz:=sz) (cap:=cap) (es:=E') (arr:=arr) h1 h2 h3
 rw[hsz]at hrep
 refine⟨(c.kill ids).add 0 ⟨false,ET,sz,E'⟩ w.heap.size,⟨?_,?_,(hf _).trans (Fr.alloc _ wd _),λb hb=>.inl hb,λq row' p1 p2=>?_⟩,λr=>?_,hrep⟩
 ·rw[<-hsz]
  exact Mem.alloc hmd (hR 0) ⟨false,ET,sz,E'⟩ arr h0 (by simp only[aN,if_false];exact hE)
 ·rw[<-hsz]
  exact hg.trans (Q2n.alloc hmd (hR 0) ⟨false,ET,sz,E'⟩ _)
 ·by_cases e:q=0
  ·subst e;right;right;simp[Ctx.add]
  ·have:(c.kill ids).R q=some row':=by simpa[Ctx.add,e]using p1
   rw[hR]at this;cases this
 ·by_cases e:r=0
  ·subst e;simp[Ctx.add]
  ·simp[Ctx.add,e,hR]
theorem vI{c:Ctx}{w wd:World}(hm:Mem c wd)(hg:∀b,c.I b->wd.heap[b]?=w.heap[b]?)(hf:∀X,Fr X w wd){ET:TypeId}{sz cap:Nat}{E X E':Els}{cur arr:Array Value}(hR:∀r,c.R r=[(⟨false,ET,sz,E⟩:Row),⟨false,ET,sz,X⟩][r]?)(hV:¬c.V 0)(hh:wd.heap[c.ρ 0]?=some (.cells cur ET (0,0)))(h0:0<sz)
 (hE:Q15 c.I wd E'.l arr 0 sz) (h1:E'.l.length<=cap) (h2:cap<=maxLen) (h3:cap*sz=arr.size):
 ∃c',NxtK [0,1] c w c' (wd.setRow (c.ρ 0) arr)/\(∀r,c'.R r=[(⟨false,ET,sz,E'⟩:Row)][r]?)/\Rep c' (wd.setRow (c.ρ 0) arr) (.all 0) (.slice (some ⟨c.ρ 0,0,none⟩) E'.l.length cap):=by
 have q0:c.R 0=some ⟨false,ET,sz,E⟩:=by rw[hR];rfl
 have hm1:=Qhn (ks:=[1]) hm
 have q1:(c.kill [1]).R 0=some ⟨false,ET,sz,E⟩:=by simp[Ctx.kill,memB,q0,Row.kill]
 obtain⟨k1,k2⟩:=Zae hm1 (r:=0) (k:=0) (row:=⟨false,ET,sz,E⟩) (row':=⟨false,ET,sz,E'⟩) (arr:=arr) q1 hV (by simp[Ctx.kill,memB]) hh rfl h0 rfl (λw' h=>Q11 (w:=wd) (λb hb=>⟨hb,h b hb⟩) _ _ _ _ hE)
 have none2:∀r,r≠0->((c.kill [1]).kill [0]).R r=none:=λr hr=>by
  by_cases e:r=1
  ·subst e;simp[Ctx.kill,memB]
  ·have:c.R r=none:=by rw[hR];rcases r with _|_|r<;>simp_all
   simp[Ctx.kill,this]
 have hnone:∀r,(c.kill [0,1]).R r=none:=λr=>by
  by_cases e:r=0
  ·subst e;simp[Ctx.kill,memB]
  ·by_cases e1:r=1
   ·subst e1;simp[Ctx.kill,memB]
   ·have:c.R r=none:=by rw[hR];rcases r with _|_|r<;>simp_all
    simp[Ctx.kill,this]
 refine⟨_,⟨k2,⟨rfl,aO _,λb hb=>⟨hb,?_⟩,λr row hr=>by rw[hnone]at hr;cases hr⟩,?_,λb hb=>.inl hb,λq row' p1 p2=>?_⟩,λr=>?_,?_⟩
 ·exact(k1.I b hb).2.trans (hg b hb)
 ·exact(hf _).trans ((Qc6 wd _ _).mono λb _ hb=>⟨0,_,q0,hV,hb.symm⟩)
 ·by_cases e:q=0
  ·subst e
   exact .inr (.inl ⟨0,_,by simp[memB],q0,hV,by simp[Ctx.add];rfl⟩)
  ·have:((c.kill [1]).kill [0]).R q=some row':=by simpa[Ctx.add,e]using p1
   rw[none2 q e]at this;cases this
 ·by_cases e:r=0
  ·subst e;simp[Ctx.add]
  ·have:=none2 r e
   simp only[Ctx.add,if_neg e,this]
   rcases r with _|r
   ·exact absurd rfl e
   ·rfl
 ·refine⟨⟨false,ET,sz,E'⟩,by simp[Ctx.add],rfl,.inr ⟨by simp[Ctx.add],cap,arr,?_,h1,h2,?_,h3⟩⟩
  ·simp[Ctx.add];rfl
  ·simp only[Ctx.add,if_true];exact setRow_heap wd _ _ _ _ _ hh
theorem Qrp(w:World)(A B:Array Value)(t:TypeId):(w.alloc (.cells A t)).setRow w.heap.size B=w.alloc (.cells B t):=by
 simp only[World.alloc,World.setRow]
 congr 1
 apply Array.ext
 ·simp
 ·intro i h1 h2
  simp[Array.getElem_modify,Array.getElem_push]
  split
  ·simp_all
  ·have h3:i<w.heap.size:=by simp at h1;omega
   rw[dif_pos h3,dif_pos h3]
end Go.GD
open Go Go.Proofs
open Go.RowKit
namespace Go.Proofs.YtoijmgbahaekiaaGreat
open Go.GD
theorem infoP:(pG.info? 220).map (λi=>(i.zero.isSome,i.size))=some (true,7):=by kernel_rfl
set_option maxHeartbeats 4000000 in
set_option maxRecDepth 1000000 in
theorem xe (b n cap i j : Nat) (news:List Value)(w W2:World)(hij:i<j)(hj:j<=n)(hn:n<=cap)(hm:cap<=9223372036854775807)
   (hlen:news.length=(n-j)*7) (hget: ∀t u,news[t]? =some u->w.drew.cell? ⟨b,j*7+t,none⟩=some u) (h1: ∀u∈news,u.oneCell'=true)
   (hsp: ∀t,t<news.length->(w.drew.cell? ⟨b,0+i*7+t,none⟩).isSome=true/\w.drew.frozen? ⟨b,0+i*7+t,none⟩=false)
   (hcl: ∀ty,(Builtin.clear_ #[119] ty #[.slice (some ⟨b,(i+(n-j))*7,none⟩) (n-(i+(n-j))) (cap-(i+(n-j)))]).run pG (w.drew.setCells b (0+i*7) news)= .ok (.tuple #[]) W2):
   Calls pG 206 #[.slice (some ⟨b,0,none⟩) n cap, .int .i64 i, .int .i64 j] w λe w'=>e= .returned (.slice (some ⟨b,0,none⟩) (i+(n-j)) cap)/\w'=W2:=by
  obtain⟨i0,hi0,hz1⟩: ∃i0,pG.info? 220=some i0/\i0.size=7:=by
    obtain⟨i,hi,hzz⟩:=Option.map_eq_some_iff.1 infoP
    simp only[Prod.mk.injEq]at hzz
    exact⟨i,hi,hzz.2⟩
  obtain ⟨A, hA, hsrc⟩ : ∃ A : Addr, (if cap=j then some (⟨b,0,none⟩:Addr) else some ⟨b,j*7,none⟩)=some A/\Hid (∀t u,news[t]? =some u->w.drew.cell? (A.add t)=some u):=by
    by_cases h:cap=j
    . refine ⟨⟨b, 0, none⟩, by simp [h],λt u hu=> ?_⟩
      have h0 : news.length = 0 := by rw[hlen];have:n-j=0:=by omega
                                      rw[this]
      rw[List.length_eq_zero_iff.1 h0]at hu
      simp at hu
    . refine⟨⟨b,j*7,none⟩,by simp [h],λt u hu=> ?_⟩
      rw[Addr.add_lit]
      exact hget t u hu
  have s1:Hid (news.length=(n-j)*7):=hlen
  have s2:Hid (∀u∈news,u.oneCell'=true):=h1
  have s3:Hid (∀t,t<news.length->(w.drew.cell? ⟨b,0+i*7+t,none⟩).isSome=true/\w.drew.frozen? ⟨b,0+i*7+t,none⟩=false):=hsp
  obtain⟨W1,hW1⟩: ∃W1,W1=w.drew.setCells b (0+i*7) news:=⟨_,rfl⟩
  rw[<-hW1]at hcl
  have hW:Hid (W1=w.drew.setCells b (0+i*7) news):=hW1
  have hic:i<=cap:=by omega
  have hjc:j<=cap:=by omega
  have hne: ¬(i=j):=by omega
  have mixed:pG.follows Departure.mixedOrders=true:=by kernel_rfl
  clear hW1 hget hlen h1 hsp
  go_enter Tryz.func206,Tryz.ntmps206
  go_wp2_with fail
  go_region_law_o (refine step_append_room rfl (.tmp 22) (.tmp 25) 119 rfl 220 i0 7 Tryz.underlying119 hi0 hz1 b 0 i cap (by simp [Act.eval,Act.put]) A (n-j) (cap-j) news (by simp [Act.eval,Act.put]) s1.out hsrc.out s2.out (by omega) s3.out ?_;rw[<-hW.out])
  go_wp2
  go_ret
  exact⟨rfl,rfl⟩
theorem Zbo{E E':Els}{i j:Nat}(hij:i<j)(hj:j<=E.l.length)(hE':E'.l=E.l.take i++E.l.drop j):
 Q9l pG 206 0 [.all 0,.int .i64 i,.int .i64 j] [⟨false,220,7,E⟩] (.all 0) [⟨false,220,7,E'⟩]:=by
 intro c w vs hm hb hR ha
 match vs,ha with
 |[u,vi,vj],ha=>
  have hvi:vi=.int .i64 i:=ha.2.1
  have hvj:vj=.int .i64 j:=ha.2.2.1
  subst hvi;subst hvj
  obtain⟨row,q1,q2,hv⟩:=(ha.1:CRep c w (.all 0) u)
  have hrow:row=⟨false,220,7,E⟩:=by rw[hR]at q1;exact(Option.some.inj q1).symm
  subst hrow
  rcases hv with⟨hV,a,hv,_⟩|⟨hV,cap,arr,hv,h1,h2,h3,h4⟩
  ·have he:=(hm.virt q1 hV).2.1
   simp only at he
   rw[he]at hj;simp at hj;omega
  ·obtain⟨cur',ha',_,hE0⟩:=hm.real q1 hV
   simp only at h1 h3 h4 hv ha'
   rw[h3]at ha';cases ha'
   simp only[aN,if_false]at hE0
   subst hv
   obtain⟨z,hz,hzs,hz1⟩:∃z:Value,(∀w,(zeroValue 220).run pG w=.ok z w)/\z.cells.size=7/\(z.cells.toList.all Value.oneCell')=true:=⟨_,Tryz.zeroValue220,by kernel_rfl,by kernel_rfl⟩
   generalize hn:E.l.length=n at*
   obtain⟨A,a1,a2,a3⟩:=Qdn (Z9k (i:=i) hE0) (by omega)
   obtain⟨B,b1,b2,b3⟩:=Qdn (Z98 (j:=j) hE0) (by omega)
   rw[bD,hn,cM (by omega)]at a1
   rw[bG,hn]at b1
   have hd:w.drew.heap[c.ρ 0]?=some (.cells arr 220 (0,0)):=h3
   have hB1:=Q15.one b3 (by rw[bG,hn];exact b1)
   have hfit:0+i*7+B.length<=arr.size:=by omega
   have hA:arr.toList.take (0+i*7)=A:=by
    apply cN
    intro t
    by_cases ht:t<A.length
    ·have:=a2 t _ (cI ht)
     rw[aU,if_pos (by omega),cI ht]
     simpa using this
    ·rw[aM (by rw[bD];omega),aM (by omega)]
   obtain⟨arr1,harr1⟩:∃arr1:Array Value,arr1=(arr.toList.take (0+i*7)++B++arr.toList.drop (0+i*7+B.length)).toArray:=⟨_,rfl⟩
   have hW1:w.drew.setCells (c.ρ 0) (0+i*7) B=w.drew.setRow (c.ρ 0) arr1:=by rw[harr1];exact Q9w hd hfit hB1
   have hs1:arr1.size=arr.size:=by
    rw[harr1]
    simp only[bA,lA,bD,bG,cO]
    omega
   have hd1:(w.drew.setRow (c.ρ 0) arr1).heap[c.ρ 0]?=some (.cells arr1 220 (0,0)):=setRow_heap w.drew _ _ _ _ _ hd
   obtain⟨arr2,harr2⟩:∃arr2:Array Value,arr2=(arr1.toList.take ((i+(n-j))*7)++(Builtin.zeroCells z.cells (n-(i+(n-j)))).toList++arr1.toList.drop ((i+(n-j))*7+(n-(i+(n-j)))*z.cells.size)).toArray:=⟨_,rfl⟩
   have hcl:=λty=>Z3u (P:=pG) (ty:=ty) (c:=cap-(i+(n-j))) Tryz.underlying119 hz (List.all_eq_true.1 hz1) (m:=n-(i+(n-j))) (o:=(i+(n-j))*7) (by omega) hd1 (by rw[hzs,hs1];omega)
   rw[<-harr2,<-hW1]at hcl
   have hs2:arr2.size=arr.size:=by
    rw[harr2]
    simp only[bA,lA,bD,bG,cO,size_zeroCells,hzs,hs1]
    omega
   have hwalk:=xe (c.ρ 0) n cap i j B w _ hij hj h1 (by have:=h2;unfold maxLen at this;omega) b1
    (λt u hu=>by have:=b2 t u hu;simp[World.cell?,hd,this]) hB1
    (λt ht=>by have this:=(show i*7+t<arr.size from(by omega));simp[World.cell?,World.frozen?,hd,this]) hcl
   refine Qgy.real (by decide) (hwalk.mono λe w' hq=>?_)
   obtain⟨he,rfl⟩:=hq
   rw[hW1,setRow_setRow]
   have hhead:arr1.toList.take ((i+(n-j))*7)=A++B:=by
    rw[harr1,hA]
    simp only[cP]
    rw[<-cP,cQ (by rw[lA,a1,b1,Nat.add_mul])]
   have hmk:=Q9h hm
   obtain⟨k1,k2⟩:=Zae hmk (k:=0) (row':=⟨false,220,7,E'⟩) (arr:=arr2) q1 hV (by simp[Ctx.kill,memB]) hd rfl (by omega) rfl (λw' h=>by
    rw[hE',harr2,hhead]
    simp only[cP]
    rw[<-cP]
    exact Qb1 (Q11 (w:=w) (λb hb=>⟨hb,h b hb⟩) _ _ _ _ a3) (by rw[bD,hn,cM (by omega)];exact a1) (Q11 (w:=w) (λb hb=>⟨hb,h b hb⟩) _ _ _ _ b3) (by rw[bG,hn];exact b1))
   have hl':E'.l.length=i+(n-j):=by rw[hE',lA,bD,bG,hn];omega
   refine⟨_,_,he,⟨k2,(Q6n (c.kill [0]) w).trans k1,?_,λb hb=>.inl hb,λq row' p1 p2=>?_⟩,λr=>?_,?_⟩
   ·exact Fr.trans (w':=w.drew) ⟨rfl,rfl,rfl,aO _,λ_ _ _=>rfl⟩ ((Qc6 w.drew _ _).mono λb _ hb=>⟨0,_,q1,hV,hb.symm⟩)
   ·by_cases e1:q=0
    ·subst e1
     exact .inr (.inl ⟨0,_,by simp[memB],q1,hV,by simp[Ctx.add]⟩)
    ·have h1':(c.kill [0]).R q=some row':=by simpa[Ctx.add,e1]using p1
     obtain⟨_,row0,h3',_⟩:=Q2b h1'
     exact .inl ⟨⟨row0,h3'⟩,by simpa[Ctx.add,e1,Ctx.kill]using p2,by simp[Ctx.add,e1,Ctx.kill]⟩
   ·by_cases e:r=0
    ·subst e;simp[Ctx.add]
    ·have:c.R r=none:=by rw[hR];simp[e]
     simp[Ctx.add,e,Ctx.kill,this]
   ·refine⟨⟨false,220,7,E'⟩,by simp[Ctx.add],rfl,.inr ⟨by simp[Ctx.add],cap,arr2,?_,by simp only;omega,h2,?_,?_⟩⟩
    ·simp only[Ctx.add,if_true,hl']
    ·simp only[Ctx.add,if_true];exact setRow_heap w.drew _ _ _ _ _ hd
    ·simp only;rw[hs2];exact h4
theorem infoIP:(pG.info? 220).map (λi=>(i.zero.isSome,i.size))=some (true,7):=by kernel_rfl
theorem sizeIP:∀w,(Go.sizeOf 220).run pG w=.ok 7 w:=λw=>by
 obtain⟨i,hi,hzz⟩:=Option.map_eq_some_iff.1 infoIP
 simp only[Prod.mk.injEq]at hzz
 simp[Go.sizeOf,typeInfo,hi,hzz.2]
set_option maxHeartbeats 4000000 in
set_option maxRecDepth 1000000 in
theorem Zaz(b n c i vb m vc:Nat)(cs vs:List Value)(w:World)(hi:i<n)(hm:0<m)(hroom:n+m<=c)(hc63:c<=9223372036854775807)(hvb:vb≠b)
 (hcl:cs.length=n*7) (hvl:vs.length=m*7)
 (hcs:∀j v,cs[j]?=some v->w.cell? ⟨b,j,none⟩=some v) (hsp:∀j,j<(n+m)*7->(w.cell? ⟨b,j,none⟩).isSome=true) (hfz:∀j,j<(n+m)*7->w.frozen? ⟨b,j,none⟩=false)
 (hvs:∀j v,vs[j]?=some v->w.cell? ⟨vb,j,none⟩=some v) (h1c:∀v∈cs,v.oneCell'=true) (h1v:∀v∈vs,v.oneCell'=true)
 (tA tB:TypeId) (kA kB:Nat) (hsa:w.shape? vb=some (tA,kA)) (hsb:w.shape? b=some (tB,kB)) (hkB:kB≠0) (hfa:w.frozen? ⟨vb,0,none⟩=false) (hfe:w.frozen? ⟨vb,kA,none⟩=false):
 Calls pG 205 #[.slice (some ⟨b,0,none⟩) n c,.int .i64 i,.slice (some ⟨vb,0,none⟩) m vc] w λe w'=>
  e=.returned (.slice (some ⟨b,0,none⟩) (n+m) c)/\w'=(w.drew.setCells b ((i+m)*7) (cs.drop (i*7))).setCells b (i*7) vs:=by
 have hz1:¬((m:Int)=0):=by omega
 have hz1b:((m:Int)==0)=false:=by simpa using hz1
 have hz2:¬((i:Int)=(n:Int)):=by omega
 have hz2b:((i:Int)==(n:Int))=false:=by simpa using hz2
 obtain⟨i0,hi0,hsz⟩:∃i0,pG.info? 220=some i0/\i0.size=7:=by
  obtain⟨i,hi,hzz⟩:=Option.map_eq_some_iff.1 infoIP
  simp only[Prod.mk.injEq]at hzz
  exact⟨i,hi,hzz.2⟩
 have hov:∀lb cb,(callFunc 305 #[.slice (some ⟨vb,0,none⟩) m vc,.slice (some ⟨b,(i+m)*7,none⟩) lb cb]).run pG w=.ok (.value (.bool false)) w:=λlb cb=>by
  rw[run_callFunc_extern Tryz.func305 (by kernel_rfl) (by kernel_rfl) (by kernel_rfl) (e:=Extern.SlicesOverlaps.overlaps #[119,119] #[4]) (by kernel_rfl),
   Lib.run_overlaps_apart w 119 4 220 Tryz.underlying119 7 sizeIP ⟨vb,0,none⟩ ⟨b,(i+m)*7,none⟩ m vc lb cb hvb tA tB kA kB hsa hsb hkB hfa hfe]
  rfl
 have hdl:(cs.drop (i*7)).length=(n-i)*7:=by rw[bG,hcl];omega
 have mixed:pG.follows Departure.mixedOrders=true:=by kernel_rfl
 have hw1:IntKind.i64.wrap ((i:Int)+(m:Int))=(i:Int)+(m:Int):=by rw[IntKind.wrap_i64];omega
 have hb1:(0:Int)<=(i:Int)+(m:Int):=by omega
 have hin:i<=n:=by omega
 have htn:((i:Int)+(m:Int)).toNat=i+m:=by omega
 have hb2:¬(c=i+m):=by omega
 have hb3:(i:Int)<=(n:Int)+(m:Int):=by omega
 have hb4:¬(c=i):=by omega
 have hmin1:min (n+m-i) (n+m-(i+m))=n-i:=by omega
 have hmin2:min m (n+m-i)=m:=by omega
 have hcp1:∀ty dc sc,(Builtin.copy_ #[119,119] ty #[.slice (some ⟨b,(i+m)*7,none⟩) (n+m-(i+m)) dc,.slice (some ⟨b,i*7,none⟩) (n+m-i) sc]).run pG w.drew=.ok (.int .i64 (n-i:Nat)) (w.drew.setCells b ((i+m)*7) (cs.drop (i*7))):=λty dc sc=>by
  have:=Qmz (P:=pG) w.drew (t:=119) (ty:=ty) (cap:=dc) (sc:=sc) (b:=b) (o:=(i+m)*7) (n:=n+m-(i+m)) (a:=⟨b,i*7,none⟩) (m:=n+m-i) (news:=cs.drop (i*7)) Tryz.underlying119 hi0 (by rw[hdl,hmin1,hsz])
   (λj v hj=>by rw[Addr.add_lit];exact hcs (i*7+j) v (by rwa [cR]at hj))
   (λj hj=>⟨hsp _ (by omega),hfz _ (by omega)⟩) (λv hv=>h1c v (cS hv))
  rw[hmin1]at this
  exact this
 obtain⟨W1,hW1⟩:∃W1,W1=w.drew.setCells b ((i+m)*7) (cs.drop (i*7)):=⟨_,rfl⟩
 have hsp1:∀k,k<(n+m)*7->(W1.cell? ⟨b,k,none⟩).isSome=true:=λk hk=>by
  rw[hW1]
  exact Qik b (cs.drop (i*7)) ((i+m)*7) w.drew (λj hj=>hsp _ (by omega)) k (hsp k hk)
 have hcp2:∀(W:World),(∀x,W.cell? x=W1.cell? x)->(∀x,W.frozen? x=W1.frozen? x)->∀ty dc,(Builtin.copy_ #[119,119] ty #[.slice (some ⟨b,i*7,none⟩) (n+m-i) dc,.slice (some ⟨vb,0,none⟩) m vc]).run pG W=.ok (.int .i64 (m:Nat)) (W.setCells b (i*7) vs):=λW hWc hWf ty dc=>by
  have:=Qmz (P:=pG) W (t:=119) (ty:=ty) (cap:=dc) (sc:=vc) (b:=b) (o:=i*7) (n:=n+m-i) (a:=⟨vb,0,none⟩) (m:=m) (news:=vs) Tryz.underlying119 hi0 (by rw[hvl,hmin2,hsz])
   (λj v hj=>by
    rw[Addr.add_lit,aX,hWc,hW1,World.cell?_setCells_out b _ _ _ _ (λh _=>absurd h hvb)]
    exact hvs j v hj)
   (λj hj=>⟨by rw[hWc];exact hsp1 _ (by omega),by rw[hWf,hW1,World.frozen?_setCells];exact hfz _ (by omega)⟩) h1v
  rw[hmin2]at this
  exact this
 rw[<-hW1]at hcp1
 go_enter Tryz.func205,Tryz.ntmps205
 go_wp2_with (simp only[hov])
 go_region_law_o (refine step_copy_runI rfl _ _ 119 119 rfl _ _ (by simp[Act.eval,Act.put]) (by simp[Act.eval,Act.put]) (hcp1 _ _ _) ?_)
 go_wp2
 go_ret
 first|exact⟨rfl,rfl⟩|exact⟨rfl,by rw[hW1]⟩
set_option maxHeartbeats 4000000 in
set_option maxRecDepth 1000000 in
theorem Z3(b n c vb m vc:Nat)(vs:List Value)(w:World)(hm:0<m)(hroom:n+m<=c)(hc63:c<=9223372036854775807)
 (hvl:vs.length=m*7) (hsp:∀j,j<vs.length->(w.cell? ⟨b,n*7+j,none⟩).isSome=true) (hfz:∀j,j<vs.length->w.frozen? ⟨b,n*7+j,none⟩=false)
 (hvs:∀j v,vs[j]?=some v->w.cell? ⟨vb,j,none⟩=some v) (h1v:∀v∈vs,v.oneCell'=true):
 Calls pG 205 #[.slice (some ⟨b,0,none⟩) n c,.int .i64 n,.slice (some ⟨vb,0,none⟩) m vc] w λe w'=>
  e=.returned (.slice (some ⟨b,0,none⟩) (n+m) c)/\w'=w.setCells b (n*7) vs:=by
 obtain⟨i0,hi0,hsz⟩:∃i0,pG.info? 220=some i0/\i0.size=7:=by
  obtain⟨i,hi,hzz⟩:=Option.map_eq_some_iff.1 infoIP
  simp only[Prod.mk.injEq]at hzz
  exact⟨i,hi,hzz.2⟩
 have mixed:pG.follows Departure.mixedOrders=true:=by kernel_rfl
 have hz1:¬((m:Int)=0):=by omega
 have hz1b:((m:Int)==0)=false:=by simpa using hz1
 have hsrc:Src pG i0.size 119 (.slice (some ⟨vb,0,none⟩) m vc) m vs w:=Src.ofSlice w Tryz.underlying119 ⟨vb,0,none⟩ m vc vs (by rw[hsz];exact hvl) (λj u hj=>by rw[Addr.add_lit,aX];exact hvs j u hj) h1v
 go_enter Tryz.func205,Tryz.ntmps205
 go_wp2_with (at_builtin;refine wpList_append_room_src _ rfl _ _ 119 119 rfl 220 i0 Tryz.underlying119 hi0 b 0 n c rfl _ rfl m vs hsrc hroom (by rw[hsz];simpa using hsp) (by rw[hsz];simpa using hfz) ?_;rw[hsz,aX])
 go_ret
 exact⟨rfl,rfl⟩
set_option maxHeartbeats 4000000 in
set_option maxRecDepth 1000000 in
theorem Qod(base:Option Addr)(n c vb m vc:Nat)(cs vs:List Value)(w:World)(i0:TypeInfo)(z:Value)(hi0:pG.info? 220=some i0)(hz0:i0.zero=some z)(hsz:i0.size=7)(hm:0<m)(hnc:n<=c)(hroom:c<n+m)(hbig:(n+m)*i0.bytes<=140737488355328)(hby:0<i0.bytes)
 (hcl:cs.length=n*7) (hvl:vs.length=m*7) (hnil:base=none->n=0)
 (hcs:∀a,base=some a->∀j v,cs[j]?=some v->w.cell? (a.add j)=some v)
 (hvs:∀j v,vs[j]?=some v->w.cell? ⟨vb,j,none⟩=some v) (h1v:∀v∈vs,v.oneCell'=true):
 Calls pG 205 #[.slice base n c,.int .i64 n,.slice (some ⟨vb,0,none⟩) m vc] w λe w'=>
  e=.returned (.slice (some ⟨w.heap.size,0,none⟩) (n+m) (grownCap w (n+m) c 220))/\
  w'=w.drew.alloc (.cells ((cs++vs).toArray++Builtin.zeroCells z.cells (grownCap w (n+m) c 220-(n+m))) 220):=by
 have mixed:pG.follows Departure.mixedOrders=true:=by kernel_rfl
 have hz1:¬((m:Int)=0):=by omega
 have hz1b:((m:Int)==0)=false:=by simpa using hz1
 have hle:n+m<=140737488355328:=bI (cU _ hby) hbig
 have hsrc:Src pG i0.size 119 (.slice (some ⟨vb,0,none⟩) m vc) m vs w:=Src.ofSlice w Tryz.underlying119 ⟨vb,0,none⟩ m vc vs (by rw[hsz];exact hvl) (λj u hj=>by rw[Addr.add_lit,aX];exact hvs j u hj) h1v
 have hold:(Builtin.firstCells i0.size n (.slice base n c)).run pG w.drew=.ok cs.toArray w.drew:=by
  cases base with
  |none=>
   have h0:=hnil rfl
   subst h0
   rw[List.length_eq_zero_iff.1 (by omega:cs.length=0)]
   exact run_firstCells_none w.drew i0.size 0 0 c
  |some a=>exact run_firstCells_some w.drew i0.size n a n c cs (by rw[hsz];omega) (λj v hj=>hcs a rfl j v hj)
 have hrun:∀ty,(Builtin.append_ #[119,119] ty #[.slice base n c,.slice (some ⟨vb,0,none⟩) m vc]).run pG w=_:=λty=>
  run_append_grow_src w 119 119 ty 220 i0 _ Tryz.underlying119 hi0 hz0 base n c cs hold _ m vs hsrc hroom (by omega) (growslice_fits hroom hbig)
 obtain⟨zc,hzc⟩:∃zc,zc=z.cells:=⟨_,rfl⟩
 simp only[<-hzc]at hrun⊢
 clear hzc
 go_enter Tryz.func205,Tryz.ntmps205
 cases base with
 |none=>
  have h0:=hnil rfl
  subst h0
  go_wp2_with (at_builtin;refine Lib.wpList_append_run _ rfl _ _ _ _ rfl _ _ rfl rfl _ _ (hrun _) ?_)
  go_ret
  exact⟨rfl,rfl⟩
 |some a=>
  obtain⟨ab,ao,asp⟩:=a
  go_wp2_with (at_builtin;refine Lib.wpList_append_run _ rfl _ _ _ _ rfl _ _ rfl rfl _ _ (hrun _) ?_)
  all_goals(go_ret;exact⟨rfl,rfl⟩)
set_option maxHeartbeats 4000000 in
set_option maxRecDepth 1000000 in
theorem ze(b n c i vb m vc:Nat)(cs vs:List Value)(w:World)(i0:TypeInfo)(z:Value)(hi0:pG.info? 220=some i0)(hz0:i0.zero=some z)(hzs:z.cells.size=7)(hsz:i0.size=7)(hi:i<n)(hm:0<m)(hnc:n<=c)(hroom:c<n+m)(hbig:(n+m)*i0.bytes<=140737488355328)(hby:0<i0.bytes)
 (hcl:cs.length=n*7) (hvl:vs.length=m*7)
 (hcs:∀j v,cs[j]?=some v->w.cell? ⟨b,j,none⟩=some v)
 (hvs:∀j v,vs[j]?=some v->w.cell? ⟨vb,j,none⟩=some v) (h1c:∀v∈cs,v.oneCell'=true) (h1v:∀v∈vs,v.oneCell'=true):
 Calls pG 205 #[.slice (some ⟨b,0,none⟩) n c,.int .i64 i,.slice (some ⟨vb,0,none⟩) m vc] w λe w'=>
  e=.returned (.slice (some ⟨w.heap.size,0,none⟩) (n+m) (grownCap w (n+m) c 220))/\
  w'=(((w.alloc (.cells ((cs.take (i*7)).toArray++Builtin.zeroCells z.cells (n+m-i)++Builtin.zeroCells z.cells (grownCap w (n+m) c 220-(n+m))) 220)).drew.setCells w.heap.size (i*7) vs).drew).setCells w.heap.size ((i+m)*7) (cs.drop (i*7)):=by
 have mixed:pG.follows Departure.mixedOrders=true:=by kernel_rfl
 have hle:n+m<=140737488355328:=bI (cU _ hby) hbig
 have hz1:¬((m:Int)=0):=by omega
 have hz1b:((m:Int)==0)=false:=by simpa using hz1
 have hz2:¬((i:Int)=(n:Int)):=by omega
 have hz2b:((i:Int)==(n:Int))=false:=by simpa using hz2
 have hz3:(c:Int)<(n:Int)+(m:Int):=by omega
 have hbw:b<w.heap.size:=block_lt_of_cell (hcs 0 _ (cI (by omega)))
 have hvw:vb<w.heap.size:=block_lt_of_cell (hvs 0 _ (cI (by omega)))
 have hkk:(n:Int)+(m:Int)-(i:Int)=((n+m-i:Nat):Int):=by omega
 have hik:i+(n+m-i)=n+m:=by omega
 have hold:(Builtin.firstCells i0.size i (.slice (some ⟨b,0,none⟩) i c)).run pG w.drew=.ok (cs.take (i*7)).toArray w.drew:=
  run_firstCells_some w.drew i0.size i ⟨b,0,none⟩ i c (cs.take (i*7)) (by rw[bD,hsz];omega) (λj v hj=>by
   rw[Addr.add_lit,aX]
   rw[aU]at hj
   split at hj
   ·exact hcs j v hj
   ·cases hj)
 have hrz:∀ty,(Builtin.append_ #[119,3] ty #[.slice (some ⟨b,0,none⟩) i c,.int .i64 ((n:Int)+(m:Int)-(i:Int))]).run pG w=
  .ok (.slice (some ⟨w.heap.size,0,none⟩) (n+m) (grownCap w (n+m) c 220)) (w.drew.alloc (.cells ((cs.take (i*7)).toArray++Builtin.zeroCells z.cells (n+m-i)++Builtin.zeroCells z.cells (grownCap w (n+m) c 220-(n+m))) 220)):=λty=>by
  have h:=Lib.run_append_grow_zeros w 119 3 ty 220 i0 _ .i64 .i64 Tryz.underlying119 Tryz.underlying3 hi0 hz0 (some ⟨b,0,none⟩) i c (cs.take (i*7)) hold (n+m-i) (by omega) (by omega) (by omega) (by omega) (by have:=aV i0.bytes (show n+m-i<=n+m by omega);omega) (by rw[hik];exact growslice_fits hroom hbig)
  rw[hik]at h
  rw[hkk]
  exact h
 obtain⟨G,hG⟩:∃G,G=grownCap w (n+m) c 220:=⟨_,rfl⟩
 obtain⟨ROW,hROW⟩:∃ROW:Array Value,ROW=(cs.take (i*7)).toArray++Builtin.zeroCells z.cells (n+m-i)++Builtin.zeroCells z.cells (G-(n+m)):=⟨_,rfl⟩
 rw[<-hG]at hrz⊢
 rw[<-hROW]at hrz⊢
 have hRl:(n+m)*7<=ROW.size:=by
  rw[hROW]
  simp only[cV,bA,bD,size_zeroCells,hzs,hcl]
  omega
 obtain⟨W1,hW1⟩:∃W1,W1=w.drew.alloc (.cells ROW 220):=⟨_,rfl⟩
 rw[<-hW1]at hrz
 have hN:∀j,j<(n+m)*7->(W1.cell? ⟨w.heap.size,j,none⟩).isSome=true:=λj hj=>by
  rw[hW1,World.cell?_alloc_at (w:=w.drew) ROW _ w.heap.size j rfl,Array.getElem?_eq_getElem (by omega)];rfl
 have hNf:∀j,W1.frozen? ⟨w.heap.size,j,none⟩=false:=λj=>by rw[hW1];exact World.frozen?_alloc_at (w:=w.drew) ROW _ w.heap.size j rfl
 have hOb:∀j v,w.cell? ⟨b,j,none⟩=some v->W1.cell? ⟨b,j,none⟩=some v:=λj v h=>by rw[hW1,World.cell?_alloc_past (w:=w.drew) _ b j hbw];exact h
 have hOv:∀j v,w.cell? ⟨vb,j,none⟩=some v->W1.cell? ⟨vb,j,none⟩=some v:=λj v h=>by rw[hW1,World.cell?_alloc_past (w:=w.drew) _ vb j hvw];exact h
 have hmin2:min m (n+m-i)=m:=by omega
 have hmin3:min (n-i) (n+m-(i+m))=n-i:=by omega
 have hcpA:∀(W:World),(∀x,W.cell? x=W1.cell? x)->(∀x,W.frozen? x=W1.frozen? x)->∀ty dc,(Builtin.copy_ #[119,119] ty #[.slice (some ⟨w.heap.size,i*7,none⟩) (n+m-i) dc,.slice (some ⟨vb,0,none⟩) m vc]).run pG W=.ok (.int .i64 (m:Nat)) (W.setCells w.heap.size (i*7) vs):=λW hWc hWf ty dc=>by
  have:=Qmz (P:=pG) W (t:=119) (ty:=ty) (cap:=dc) (sc:=vc) (b:=w.heap.size) (o:=i*7) (n:=n+m-i) (a:=⟨vb,0,none⟩) (m:=m) (news:=vs) Tryz.underlying119 hi0 (by rw[hvl,hmin2,hsz])
   (λj v hj=>by rw[Addr.add_lit,aX,hWc];exact hOv _ v (hvs j v hj))
   (λj hj=>⟨by rw[hWc];exact hN _ (by omega),by rw[hWf];exact hNf _⟩) h1v
  rw[hmin2]at this
  exact this
 have hGn:n+m<=G:=by rw[hG];exact grownCap_ge w _ _ _
 have hG63:G<=9223372036854775807:=by
  have:=grownCap_le_maxLen w (n+m) c 220 (by unfold maxLen;omega)
  rw[<-hG]at this
  unfold maxLen at this
  omega
 have hGi:¬(G=i):=by omega
 have hGim:¬(G=i+m):=by omega
 have hci:¬(c=i):=by omega
 have hbN:b≠w.heap.size:=by omega
 have hdl:(cs.drop (i*7)).length=(n-i)*7:=by rw[bG,hcl];omega
 have hcpB:∀(W:World),(∀x,W.cell? x=(W1.setCells w.heap.size (i*7) vs).cell? x)->(∀x,W.frozen? x=(W1.setCells w.heap.size (i*7) vs).frozen? x)->∀ty dc sc,(Builtin.copy_ #[119,119] ty #[.slice (some ⟨w.heap.size,(i+m)*7,none⟩) (n+m-(i+m)) dc,.slice (some ⟨b,i*7,none⟩) (n-i) sc]).run pG W=.ok (.int .i64 (n-i:Nat)) (W.setCells w.heap.size ((i+m)*7) (cs.drop (i*7))):=λW hWc hWf ty dc sc=>by
  have:=Qmz (P:=pG) W (t:=119) (ty:=ty) (cap:=dc) (sc:=sc) (b:=w.heap.size) (o:=(i+m)*7) (n:=n+m-(i+m)) (a:=⟨b,i*7,none⟩) (m:=n-i) (news:=cs.drop (i*7)) Tryz.underlying119 hi0 (by rw[hdl,hmin3,hsz])
   (λj v hj=>by
    rw[Addr.add_lit,hWc,World.cell?_setCells_out _ _ _ _ _ (λh _=>absurd h hbN)]
    exact hOb _ v (hcs (i*7+j) v (by rwa [cR]at hj)))
   (λj hj=>⟨by rw[hWc];exact Qik _ _ _ _ (λt ht=>hN _ (by omega)) _ (hN _ (by omega)),by rw[hWf,World.frozen?_setCells];exact hNf _⟩) (λv hv=>h1c v (cS hv))
  rw[hmin3]at this
  exact this
 subst hW1
 have hE1:∀x,((w.alloc (.cells ROW 220)).drew).cell? x=(w.drew.alloc (.cells ROW 220)).cell? x:=λx=>rfl
 have hE2:∀x,((w.alloc (.cells ROW 220)).drew).frozen? x=(w.drew.alloc (.cells ROW 220)).frozen? x:=λx=>rfl
 have hF1:∀x,(((w.alloc (.cells ROW 220)).drew.setCells w.heap.size (i*7) vs).drew).cell? x=((w.drew.alloc (.cells ROW 220)).setCells w.heap.size (i*7) vs).cell? x:=λx=>rfl
 have hF2:∀x,(((w.alloc (.cells ROW 220)).drew.setCells w.heap.size (i*7) vs).drew).frozen? x=((w.drew.alloc (.cells ROW 220)).setCells w.heap.size (i*7) vs).frozen? x:=λx=>rfl
 have hw1:IntKind.i64.wrap ((i:Int)+(m:Int))=(i:Int)+(m:Int):=by rw[IntKind.wrap_i64];omega
 have hb1:(0:Int)<=(i:Int)+(m:Int):=by omega
 have hin:i<=n:=by omega
 have htn:((i:Int)+(m:Int)).toNat=i+m:=by omega
 have hb3:(i:Int)<=(n:Int):=by omega
 clear hkk hik hold hROW hG hRl
 go_enter Tryz.func205,Tryz.ntmps205
 go_wp2_with (first
  |(at_builtin;refine Lib.wpList_append_run _ rfl _ _ _ _ rfl _ _ rfl rfl _ _ (hrz _) ?_)
  |(at_builtin;refine wpList_copy_runI _ rfl _ _ 119 119 rfl _ _ rfl rfl (hcpA _ hE1 hE2 _ _) ?_)
  |(at_builtin;refine wpList_copy_runI _ rfl _ _ 119 119 rfl _ _ rfl rfl (hcpB _ (λ_=>rfl) (λ_=>rfl) _ _ _) ?_))
 go_region_law_o (refine step_copy_runI rfl _ _ 119 119 rfl (.slice (some ⟨w.heap.size,(i+m)*7,none⟩) (n+m-(i+m)) (G-(i+m))) (.slice (some ⟨b,i*7,none⟩) (n-i) (c-i)) (by simp[Act.eval,Act.put]) (by simp[Act.eval,Act.put]) (hcpB _ hF1 hF2 3 (G-(i+m)) (c-i)) ?_)
 go_wp2
 go_ret
 exact⟨rfl,rfl⟩
theorem info2P:(pG.info? 220).map (λi=>(i.zero.map (λz=>z.cells.size),i.size,Nat.blt 0 i.bytes&&Nat.ble i.bytes 140))=some (some 7,7,true):=by kernel_rfl
theorem Zb8{E X E':Els}{i:Nat}(hi:i<=E.l.length)(hx:X.l.length=1)(hlim:E.l.length<=1000000)(hE':E'.l=E.l.take i++X.l++E.l.drop i):
    Q9l pG 205 0 [.all 0, .int .i64 i, .all 1] [⟨false,220,7,E⟩,⟨false,220,7,X⟩] (.all 0) [⟨false,220,7,E'⟩]:=by
  obtain⟨i0,hi0,hz⟩:=Option.map_eq_some_iff.1 info2P
  simp only[Prod.mk.injEq]at hz
  obtain⟨hz,hsz,hby⟩:=hz
  obtain⟨z,hz0,hzs⟩:=Option.map_eq_some_iff.1 hz
  simp only[aE]at hby
  have hby0:0<i0.bytes:=lE hby.1
  have hby1:i0.bytes<=140:=lE hby.2
  intro c w vs hm hb hR ha
  match vs,ha with
  | [u, vi, v],ha=>
    have hvi:vi= .int .i64 i:=ha.2.1
    subst hvi
    obtain⟨row,q1,q2,hv⟩:=(ha.1:CRep c w (.all 0) u)
    have hrow:row=⟨false,220,7,E⟩:=by rw[hR]at q1;exact(Option.some.inj q1).symm
    subst hrow
    obtain⟨row1,p1,p2,hv1⟩:=(ha.2.2.1:CRep c w (.all 1) v)
    have hrow1:row1=⟨false,220,7,X⟩:=by rw[hR]at p1;exact(Option.some.inj p1).symm
    subst hrow1
    rcases hv1 with⟨hV1,_⟩|⟨hV1,cap1,arr1,hv1,r1,r2,r3,r4⟩
    . have he:=(hm.virt p1 hV1).2.1
      simp only at he
      rw[he]at hx;cases hx
    obtain⟨cur1,hb1,_,hE1⟩:=hm.real p1 hV1
    simp only at r1 r3 r4 hv1 hb1
    rw[r3]at hb1;cases hb1
    simp only[aN,if_false]at hE1
    subst hv1
    obtain⟨B,b1,b2,b3⟩:=Qdn hE1 (by decide)
    simp only[aX]at b2
    have hB1:=Q15.one b3 b1
    have hnone: ∀r,(c.kill [0,1]).R r=none:=λr=>by
      by_cases e:r=0
      . subst e;simp [Ctx.kill,memB]
      . by_cases e1:r=1
        . subst e1;simp [Ctx.kill,memB]
        . have:c.R r=none:=by rw[hR];rcases r with _|_|r<;>simp_all
          simp [Ctx.kill,this]
    have hvs: ∀j u,B[j]? =some u->w.cell? ⟨c.ρ 1,j,none⟩=some u:=λj u hu=>by have:=b2 j u hu;simp [World.cell?,r3,this]
    have hb1':B.length=X.l.length*7:=b1
    rcases hv with⟨hV,a,hv,hoa⟩|⟨hV,cap,cur,hv,h1,h2,h3,h4⟩
    ·
      have he:=(hm.virt q1 hV).2.1
      simp only at he
      have h0:i=0:=by rw[he]at hi;simpa using hi
      subst h0
      subst hv
      have hwalk:=Qod a 0 0 (c.ρ 1) X.l.length cap1 [] B w i0 z hi0 hz0 hsz (by omega) (aO _) (by omega) (by rw[hx];omega) hby0 rfl hb1' (λ_=>rfl) (λ_ _ j u hu=>by simp at hu) hvs hB1
      refine Qgy.real (by decide) (hwalk.mono λe w' hq=> ?_)
      obtain⟨hr,rfl⟩:=hq
      have hgl:=grownCap_ge w (0+X.l.length) 0 220
      have hgm:grownCap w (0+X.l.length) 0 220<=maxLen:=grownCap_le_maxLen w _ _ 220 (by unfold maxLen;omega)
      generalize grownCap w (0+X.l.length) 0 220=G at hr hgl hgm⊢
      have hl':E'.l.length=0+X.l.length:=by rw[hE',he];simp
      obtain⟨c',n1,n2,n3⟩:=Z84 (c:=c) (w:=w) (wd:=w.drew) (ids:=[0,1]) (ET:=220) (sz:=7) (cap:=G) (E':=E') (arr:=([]++B).toArray++Builtin.zeroCells z.cells (G-(0+X.l.length))) (Q9h (Qhn hm)) (Q6n _ w) rfl (λX=>⟨rfl,rfl,rfl,aO _,λ_ _ _=>rfl⟩) hnone (by decide)
        (by
          rw[hE',he]
          have:=Qb1 (I:=c.I) (w:=w.drew) (es:=[]) (ys:=X.l) (A:=[]) (B:=B) (C:=(Builtin.zeroCells z.cells (G-(0+X.l.length))).toList) (sz:=7) (Q15.nil _ _ _) rfl (Q11 (w:=w) (w':=w.drew) (λb hb=>⟨hb,rfl⟩) _ _ _ _ b3) b1
          have e2:([]++B).toArray++Builtin.zeroCells z.cells (G-(0+X.l.length))=([]++B++(Builtin.zeroCells z.cells (G-(0+X.l.length))).toList).toArray:=by apply cW;simp
          rw[e2]
          simpa using this) (by omega) hgm (by simp only[cV,bA,List.nil_append,size_zeroCells,hzs];omega)
      rw[hl']at n3
      exact⟨_,c',hr,n1,n2,n3⟩
    . obtain⟨cur',ha',_,hE0⟩:=hm.real q1 hV
      simp only at h1 h3 h4 hv ha'
      rw[h3]at ha';cases ha'
      simp only[aN,if_false]at hE0
      subst hv
      have hne:c.ρ 1≠c.ρ 0:=λe=>absurd (hm.inj 1 0 _ _ p1 q1 hV1 hV e) (by decide)
      generalize hn:E.l.length=n at*
      have hcm:cap<=9223372036854775807:=by have:=h2;unfold maxLen at this;omega
      obtain⟨A1,d1,d2,d3⟩:=Qdn (Z9k (i:=i) hE0) (by decide)
      obtain⟨C1,e1,e2,e3⟩:=Qdn (Z98 (j:=i) hE0) (by decide)
      simp only[aX]at d2
      rw[bD,hn,cM hi]at d1
      rw[bG,hn]at e1
      have hA1:=Q15.one d3 (by rw[bD,hn,cM hi];exact d1)
      have hC1:=Q15.one e3 (by rw[bG,hn];exact e1)
      have hcs: ∀j u,(A1++C1)[j]? =some u->w.cell? ⟨c.ρ 0,j,none⟩=some u:=λj u hu=>by
        by_cases hj:j<A1.length
        . rw[List.getElem?_append_left hj]at hu
          have:=d2 j u hu
          simp [World.cell?,h3,this]
        . rw[List.getElem?_append_right (by omega)]at hu
          have:=e2 _ u hu
          rw[show i*7+(j-A1.length)=j by omega]at this
          simp [World.cell?,h3,this]
      have hcl:(A1++C1).length=n*7:=by rw[lA,d1,e1];omega
      have hck: ∀u∈A1++C1,u.oneCell'=true:=λu hu=>(List.mem_append.1 hu).elim (hA1 u) (hC1 u)
      have htk:(A1++C1).take (i*7)=A1:=cQ d1
      have hdr:(A1++C1).drop (i*7)=C1:=cX d1
      have hcA:cur.toList.take (i*7)=A1:=by
        apply cN
        intro t
        by_cases ht:t<A1.length
        . have:=d2 t _ (cI ht)
          rw[aU,if_pos (by omega),cI ht]
          simpa using this
        . rw[aM (by rw[bD];omega),aM (by omega)]
      have hl':E'.l.length=n+1:=by rw[hE',lA,lA,bD,bG,hn,hx];omega
      have hAB: ∀wd:World,(∀b,c.I b->wd.heap[b]? =w.heap[b]?)-> ∀rest:List Value,Q15 c.I wd E'.l (A1++B++C1++rest).toArray 0 7:=λwd hw rest=>by
        rw[hE']
        have m1:=Q11 (w':=wd) (λb hb=>⟨hb,hw b hb⟩) _ _ _ _ d3
        have m2:=Q11 (w':=wd) (λb hb=>⟨hb,hw b hb⟩) _ _ _ _ b3
        have m3:=Q11 (w':=wd) (λb hb=>⟨hb,hw b hb⟩) _ _ _ _ e3
        have j1:=Qjo m1 (by rw[bD,hn,cM hi];exact d1) m2
        exact Qb1 j1 (by rw[lA,lA,bD,hn,cM hi,d1,b1];omega) m3 (by rw[bG,hn];exact e1)
      have hBl:B.length=7:=by rw[b1,hx]
      have hgl:=grownCap_ge w (n+X.l.length) cap 220
      have hgm:grownCap w (n+X.l.length) cap 220<=maxLen:=grownCap_le_maxLen w _ _ 220 (by unfold maxLen;omega)
      have hdrew: ∀Y,Fr Y w w.drew:=λY=>⟨rfl,rfl,rfl,aO _,λ_ _ _=>rfl⟩
      have hdrew2: ∀Y,Fr Y w w.drew.drew:=λY=>⟨rfl,rfl,rfl,aO _,λ_ _ _=>rfl⟩
      rw[hx]at hgl hgm
      have hmk:=Qhn (ks:=[0,1]) hm
      by_cases hin:i=n
      . subst hin
        have hC0:C1=[]:=List.length_eq_zero_iff.1 (by rw[e1];omega)
        by_cases hroom:i+1<=cap
        . have hwalk:=Z3 (c.ρ 0) i cap (c.ρ 1) 1 cap1 B w (by omega) hroom hcm (by omega)
            (λj hj=>by have this:=(show i*7+j<cur.size from(by rw[<-h4];have:=aV 7 hroom;omega));simp [World.cell?,h3,this])
            (λj hj=>by simp [World.frozen?,h3]) hvs hB1
          rw[hx]
          refine Qgy.real (by decide) (hwalk.mono λe w' hq=> ?_)
          obtain⟨hr,rfl⟩:=hq
          have hfit:i*7+B.length<=cur.size:=by rw[hBl,<-h4];have:=aV 7 hroom;omega
          rw[Q9w h3 hfit hB1,hcA]
          have hE2:=hAB w (λ_ _=>rfl) (cur.toList.drop (i*7+B.length))
          rw[hC0,cL]at hE2
          obtain⟨c',n1,n2,n3⟩:=vI (c:=c) (w:=w) (wd:=w) (cap:=cap) hm (λ_ _=>rfl) (λX=>Fr.refl X w) hR hV h3 (by decide) hE2 (by omega) h2
            (by rw[h4];simp only[bA,lA,bG,cO,d1];omega)
          rw[hl']at n3
          exact⟨_,c',hr,n1,n2,n3⟩
        . have hwalk:=Qod (some ⟨c.ρ 0,0,none⟩) i cap (c.ρ 1) 1 cap1 (A1++C1) B w i0 z hi0 hz0 hsz (by omega) h1 (by omega) (by have:=cY (i+1) hby1;omega) hby0 hcl (by omega) (λh=>by cases h) (λa ha j u hu=>by cases ha;rw[Addr.add_lit,aX];exact hcs j u hu) hvs hB1
          rw[hx]
          refine Qgy.real (by decide) (hwalk.mono λe w' hq=> ?_)
          obtain⟨hr,rfl⟩:=hq
          generalize grownCap w (i+1) cap 220=G at hr hgl hgm⊢
          have hE2:=hAB w.drew (λ_ _=>rfl) (Builtin.zeroCells z.cells (G-(i+1))).toList
          rw[hC0,cL]at hE2
          rw[hC0,cL]
          have ea:(A1++B).toArray++Builtin.zeroCells z.cells (G-(i+1))=(A1++B++(Builtin.zeroCells z.cells (G-(i+1))).toList).toArray:=by apply cW;simp
          rw[ea]
          obtain⟨c',n1,n2,n3⟩:=Z84 (c:=c) (w:=w) (wd:=w.drew) (ids:=[0,1]) (ET:=220) (sz:=7) (cap:=G) (E':=E') (Q9h hmk) (Q6n _ w) rfl hdrew hnone (by decide) hE2 (by omega) hgm
            (by simp only[bA,lA,cO,size_zeroCells,hzs,d1,hBl];omega)
          rw[hl']at n3
          exact⟨_,c',hr,n1,n2,n3⟩
      . have hlt:i<n:=by omega
        by_cases hroom:n+1<=cap
        . have hwalk:=Zaz (c.ρ 0) n cap i (c.ρ 1) 1 cap1 (A1++C1) B w hlt (by omega) hroom hcm hne hcl (by omega) hcs
            (λj hj=>by have this:=(show j<cur.size from(by rw[<-h4];have:=aV 7 hroom;omega));simp [World.cell?,h3,this])
            (λj hj=>by simp [World.frozen?,h3]) hvs hck hB1 220 220 arr1.size cur.size (by simp [World.shape?,r3]) (by simp [World.shape?,h3]) (by rw[<-h4];have:=aV 7 hroom;omega) (by simp [World.frozen?,r3]) (by simp [World.frozen?,r3])
          rw[hx]
          refine Qgy.real (by decide) (hwalk.mono λe w' hq=> ?_)
          obtain⟨hr,rfl⟩:=hq
          rw[hdr]
          have hd:w.drew.heap[c.ρ 0]? =some (.cells cur 220 (0,0)):=h3
          have hcap:=aV 7 hroom
          have hfit1:(i+1)*7+C1.length<=cur.size:=by rw[e1,<-h4];omega
          rw[Q9w hd hfit1 hC1]
          obtain⟨ar,har⟩: ∃ar:Array Value,ar=(cur.toList.take ((i+1)*7)++C1++cur.toList.drop ((i+1)*7+C1.length)).toArray:=⟨_,rfl⟩
          rw[<-har]
          have hs1:ar.size=cur.size:=by
            rw[har];simp only[bA,lA,bD,bG,cO];omega
          have hd1:=setRow_heap w.drew (c.ρ 0) cur ar 220 (0,0) hd
          have hfit2:i*7+B.length<=ar.size:=by rw[hs1,hBl,<-h4];omega
          rw[Q9w hd1 hfit2 hB1,setRow_setRow]
          have t1:ar.toList.take (i*7)=A1:=by
            rw[har]
            simp only[cP]
            rw[List.take_append_of_le_length (by rw[bD,cO];omega),List.take_take,cM (by omega),hcA]
          have t2:ar.toList.drop (i*7+B.length)=C1++cur.toList.drop ((i+1)*7+C1.length):=by
            rw[har,hBl]
            simp only[cP]
            rw[cX (by rw[bD,cO];omega)]
          rw[t1,t2,<-cP]
          obtain⟨c',n1,n2,n3⟩:=vI (c:=c) (w:=w) (wd:=w.drew) (cap:=cap) (Q9h hm) (λ_ _=>rfl) hdrew hR hV hd (by decide) (hAB w.drew (λ_ _=>rfl) (cur.toList.drop ((i+1)*7+C1.length))) (by omega) h2
            (by rw[h4];simp only[bA,lA,bG,cO,d1,e1,hBl];omega)
          rw[hl']at n3
          exact⟨_,c',hr,n1,n2,n3⟩
        . have hwalk:=ze (c.ρ 0) n cap i (c.ρ 1) 1 cap1 (A1++C1) B w i0 z hi0 hz0 hzs hsz hlt (by omega) h1 (by omega) (by have:=cY (n+1) hby1;omega) hby0 hcl (by omega) hcs hvs hck hB1
          rw[hx]
          refine Qgy.real (by decide) (hwalk.mono λe w' hq=> ?_)
          obtain⟨hr,rfl⟩:=hq
          rw[hdr,htk]
          generalize grownCap w (n+1) cap 220=G at hr hgl hgm⊢
          obtain⟨R0,hR0⟩: ∃R0:Array Value,R0=A1.toArray++Builtin.zeroCells z.cells (n+1-i)++Builtin.zeroCells z.cells (G-(n+1)):=⟨_,rfl⟩
          rw[<-hR0]
          have hsR:R0.size=G*7:=by
            rw[hR0];simp only[cV,bA,size_zeroCells,hzs,d1];omega
          have g1:(w.alloc (.cells R0 220)).drew.heap[w.heap.size]? =some (.cells R0 220 (0,0)):=Qnm w _
          have hG:=aV 7 hgl
          rw[Q9w g1 (by rw[hBl,hsR];omega) hB1]
          obtain⟨ar,har⟩: ∃ar:Array Value,ar=(R0.toList.take (i*7)++B++R0.toList.drop (i*7+B.length)).toArray:=⟨_,rfl⟩
          rw[<-har]
          have hs1:ar.size=R0.size:=by
            rw[har];simp only[bA,lA,bD,bG,cO];omega
          have g2:(((w.alloc (.cells R0 220)).drew.setRow w.heap.size ar).drew).heap[w.heap.size]? =some (.cells ar 220 (0,0)):=setRow_heap _ _ _ _ _ _ g1
          rw[Q9w g2 (by rw[hs1,hsR,e1];omega) hC1]
          have t0:R0.toList.take (i*7)=A1:=by
            rw[hR0];simp only[Array.toList_append,cP]
            rw[cQ d1]
          have t1:ar.toList.take ((i+1)*7)=A1++B:=by
            rw[har,t0]
            rw[cQ (by rw[lA,d1,hBl];omega)]
          rw[t1]
          obtain⟨rest,hrest⟩: ∃rest,rest=ar.toList.drop ((i+1)*7+C1.length):=⟨_,rfl⟩
          rw[<-hrest]
          have ew:((w.alloc (.cells R0 220)).drew.setRow w.heap.size ar).drew.setRow w.heap.size (A1++B++C1++rest).toArray=w.drew.drew.alloc (.cells (A1++B++C1++rest).toArray 220):=by
            have k1:=Qrp w.drew.drew R0 ar 220
            have k2:=Qrp w.drew.drew ar (A1++B++C1++rest).toArray 220
            rw[<-k1]at k2
            exact k2
          rw[ew]
          obtain⟨c',n1,n2,n3⟩:=Z84 (c:=c) (w:=w) (wd:=w.drew.drew) (ids:=[0,1]) (ET:=220) (sz:=7) (cap:=G) (E':=E') (Q9h (Q9h hmk)) ((Q6n _ w).trans (Q6n _ w.drew)) rfl hdrew2 hnone (by decide) (hAB w.drew.drew (λ_ _=>rfl) rest) (by omega) hgm
            (by simp only[bA,lA,hrest,bG,cO,d1,e1,hBl,hs1,hsR];omega)
          rw[hl']at n3
          exact⟨_,c',hr,n1,n2,n3⟩

