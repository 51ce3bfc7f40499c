import Derived.Test.YthjfindbamdacaaGreatDoorCards
import Derived.Test.YthjfindbamdacaaGreatDoorTie
import Derived.LaidLaws
import Derived.Stop.LaidErr
import Derived.SevenTiedAt
import Derived.Test.YthjfindbamdacaaGreatDoorAuditTellsFacts
import Derived.Test.YthjfindbamdacaaGreatDoorAuditTellsFin2
set_option linter.all false
namespace Go.Proofs.YthjfindbamdacaaGreatDoor.auditTells
open Go Go.GD Go.ChangeShapes Go.WideShapes Go.ChangeAt Go.RowKit
theorem own:ownKnob Tryz.prog.godebug=none:=by kernel_rfl
theorem laidOut:laidOutB Tryz.prog=true:=by kernel_rfl
def sig:List (Bool×List kO):=[(true,[.int .u32,.int .u32,.int .u32,.int .u32,.int .u32,.int .u32,.int .u32,.int .u32,.int .u32,.int .u32,.int .u32,.int .u32,.int .u32,.int .u32,.int .u32,.int .u32,.int .u32,.int .u32,.int .u32,.int .u32,.int .u32,.int .u32,.int .u32,.int .u32,.int .u32,.sl [.int .u32],.str,.bool,.int .u32,.bool,.int .u32,.int .u32,.int .u32,.int .i64,.int .i64,.int .u32,.int .u32,.str,.int .u32,.int .u32,.bool,.int .u32,.bool,.int .u32,.int .u32,.int .u32,.int .u64,.bool,.bool]),(true,[.int .u32,.int .u32,.int .u32,.int .u32,.int .u32,.int .u32,.int .u32,.int .u32,.int .u32,.int .u32,.int .u32,.int .u32,.int .u32,.int .u32,.int .u32,.int .u32,.int .u32,.int .u32,.int .u32,.int .u32,.int .u32,.int .u32,.int .u32,.int .u32,.int .u32,.sl [.int .u32],.str,.bool,.int .u32,.bool,.int .u32,.int .u32,.int .u32,.int .i64,.int .i64,.int .u32,.int .u32,.str,.int .u32,.int .u32,.bool,.int .u32,.bool,.int .u32,.int .u32,.int .u32,.int .u64,.bool,.bool]),(false,[.sl [.int .u64,.int .i64,.int .u32,.str]]),(false,[.sl [.int .u64]]),(false,[.sl [.int .u64,.int .u64]])]
theorem M8:si Tryz.prog 8 Tryz.f11.params.toList sig:=by
 rw[Tryz.params11]
 exact⟨by kernel_rfl,by kernel_rfl,by kernel_rfl,oY (by kernel_rfl),⟨by kernel_rfl,by kernel_rfl,by kernel_rfl,oY (by kernel_rfl),⟨by kernel_rfl,by kernel_rfl,by kernel_rfl,oY (by kernel_rfl),⟨by kernel_rfl,by kernel_rfl,by kernel_rfl,oY (by kernel_rfl),⟨by kernel_rfl,by kernel_rfl,by kernel_rfl,oY (by kernel_rfl),trivial⟩⟩⟩⟩⟩
theorem called(Ds:List D)(h:j8 sig Ds):kq Tryz.prog 11 Ds [] (.bool true) []:=by
 obtain⟨es1,Ds,rfl,h1,h⟩:=Zn5 h
 obtain⟨es2,Ds,rfl,h2,h⟩:=Zn5 h
 obtain⟨d3,Ds,rfl,h3,h⟩:=VX h
 obtain⟨d4,Ds,rfl,h4,h⟩:=VX h
 obtain⟨d5,Ds,rfl,h5,h⟩:=VX h
 obtain rfl:=yE h
 obtain⟨m,rfl,hv,_,hr⟩:=Qzb h1
 obtain⟨n,rfl,_,_,_⟩:=Qzb h2
 obtain⟨script,hs,hu⟩:=Zll (Zc h3)
 obtain⟨bn,rfl,_,r4⟩:=Zo8 (Zc h4)
 obtain⟨l,hl,hc⟩:=Zqe (Zc h5)
 obtain⟨g1,g2⟩:=EL (n:=n) (script:=script) (bn:=bn) (l:=l) hv hr ⟨hr.dl,hr.bl⟩ hu (λx hx=>by have:=r4 x hx;have e:IntKind.u64.max=18446744073709551615:=rfl;have e2:IntKind.u64.min=0:=rfl;omega) hc
 have:=(Qt5.lT rfl [.agg m.cells,.agg n.cells,.sl 4 (.ba .ae script) false,.sl 1 (.ints .u64 bn) false,.sl 2 (.ba .aa l) false] [] _ Bool (Qfh m n script bn l) (λX=>.bool X) (λX=>[]) (by rfl) g1).1
 rw[g2]at this
 exact kq.sub (mo:=[.agg m.cells,.agg n.cells,.sl 4 (.ba .ae script) false,.sl 1 (.ints .u64 bn) false,.sl 2 (.ba .aa l) false]) ⟨jz.rfl,jz.rfl,hs,gd.rfl,hl,trivial⟩ this
def Sl:List Int:=[0,1,28,2,29,14,24,3,30,22,20,15,25,17,4,8,31,27,13,23,21,19,16,7,26,12,18,6,11,5,10,9]
def VY:List Int:=[0,1,56,2,57,49,28,3,61,58,42,50,38,29,17,4,62,47,59,36,45,43,51,22,53,39,33,30,24,18,12,5,63,55,48,27,60,41,37,16,46,35,44,21,52,32,23,11,54,26,40,15,34,20,31,10,25,14,19,9,13,8,7,6]
def Sm:List Int:=[1,10,100,1000,10000,100000,1000000,10000000,100000000,1000000000,10000000000,100000000000,1000000000000,10000000000000,100000000000000,1000000000000000,10000000000000000,100000000000000000,1000000000000000000,10000000000000000000]
theorem qa{W:World}(h:laidMetH Tryz.prog Rows.auditTellsRow.laid W):laidMet Tryz.prog [("math/bits.deBruijn32tab",Lib.tabData .u8 Sl),("math/bits.deBruijn64tab",Lib.tabData .u8 VY),("internal/strconv.uint64pow10",Lib.tabData .u64 Sm)] W:=by
 have e:laidMetH Tryz.prog Rows.auditTellsRow.laid W=laidMet Tryz.prog [("math/bits.deBruijn32tab",Lib.tabData .u8 Sl),("math/bits.deBruijn64tab",Lib.tabData .u8 VY),("internal/strconv.uint64pow10",Lib.tabData .u64 Sm)] W:=rfl
 rw[e]at h
 exact h
theorem xa{W:World}(h:laidMetH Tryz.prog Rows.auditTellsRow.laid W):tD (λb=>b<W.heap.size) W:=by
 have hl:=qa h
 intro x hx
 simp only[Ku,List.mem_cons,List.mem_singleton,List.not_mem_nil,or_false]at hx
 rcases hx with rfl|rfl
 ·exact vT (by kernel_rfl) (Lib.tabIs_of_head (k:=.u8) (zs:=Sl) (g:=0) (t:=222) (e:=5) (by kernel_rfl) (by kernel_rfl) Tryz.underlying222 Tryz.underlying5 (by kernel_rfl) (by kernel_rfl) (hl))
 ·exact vT (by kernel_rfl) (Lib.tabIs_of_head (k:=.u64) (zs:=Sm) (g:=1) (t:=359) (e:=40) (by kernel_rfl) (by kernel_rfl) Tryz.underlying359 Tryz.underlying40 (by kernel_rfl) (by kernel_rfl) (hl.tail.tail))
noncomputable def Zi3 (os:Os):World:=
 let w0:=World.holding Tryz.prog os ⟨#[],#[],[]⟩
 {w0 with heap:=(((w0.heap.modify 0 fun
  |.cells _ t z=>.cells (Sl.map λn=>Value.int .u8 n).toArray t z
  |o=>o).modify 3 fun
  |.cells _ t z=>.cells (VY.map λn=>Value.int .u8 n).toArray t z
  |o=>o).modify 1 fun
  |.cells _ t z=>.cells (Sm.map λn=>Value.int .u64 n).toArray t z
  |o=>o)}
theorem Ze9(os:Os)(args:Array Value):laidMetH Tryz.prog Rows.auditTellsRow.laid ((Zi3 os).forCall (λ_ _=>0) ⟨#[],args,[]⟩).memory:=
 laidMetH_of_parts3 (fuel:=8) (laidMet_of_run' 8 (by kernel_rfl) (by kernel_rfl)) (by kernel_rfl) (by kernel_rfl)
set_option maxRecDepth 100000 in
theorem lifted(os:Os)(started:os.Started)(H:Type)(enc:TypeId×Value->H):
 ReturnsInHanded {} Tryz.checked os 11 .any (λw args=>(Rows.auditTellsSpec.pre enc Tryz.prog Tryz.f11 [] false w args/\laidMetH Tryz.prog Rows.auditTellsRow.laid w)/\sizedMet enc Tryz.prog Tryz.f11 (OpenSpec.ofChange Rows.auditTellsSpec) false w args) (Rows.auditTellsSpec.post enc Tryz.prog Tryz.f11 false true false false):=by
 refine returnsInHanded_of_change_and (C:=Tryz.checked) (X:=λw _=>laidMetH Tryz.prog Rows.auditTellsRow.laid w) (λ_ _ _ hh h=>h.of_heap hh) own started (by kernel_rfl) Tryz.func11
  (ChangeSpec.witness_at (enc:=enc) (C:=Tryz.checked) (os:=os) (X:=λw _=>laidMetH Tryz.prog Rows.auditTellsRow.laid w) false (Zi3 os) #[.agg #[.int .u32 0,.int .u32 0,.int .u32 0,.int .u32 0,.int .u32 0,.int .u32 0,.int .u32 0,.int .u32 0,.int .u32 0,.int .u32 0,.int .u32 0,.int .u32 0,.int .u32 0,.int .u32 0,.int .u32 0,.int .u32 0,.int .u32 0,.int .u32 0,.int .u32 0,.int .u32 0,.int .u32 0,.int .u32 0,.int .u32 0,.int .u32 0,.int .u32 0,.slice none 0 0,.string ⟨#[]⟩,.bool false,.int .u32 0,.bool false,.int .u32 0,.int .u32 0,.int .u32 0,.int .i64 0,.int .i64 0,.int .u32 0,.int .u32 0,.string ⟨#[]⟩,.int .u32 0,.int .u32 0,.bool false,.int .u32 0,.bool false,.int .u32 0,.int .u32 0,.int .u32 0,.int .u64 0,.bool false,.bool false],.agg #[.int .u32 0,.int .u32 0,.int .u32 0,.int .u32 0,.int .u32 0,.int .u32 0,.int .u32 0,.int .u32 0,.int .u32 0,.int .u32 0,.int .u32 0,.int .u32 0,.int .u32 0,.int .u32 0,.int .u32 0,.int .u32 0,.int .u32 0,.int .u32 0,.int .u32 0,.int .u32 0,.int .u32 0,.int .u32 0,.int .u32 0,.int .u32 0,.int .u32 0,.slice none 0 0,.string ⟨#[]⟩,.bool false,.int .u32 0,.bool false,.int .u32 0,.int .u32 0,.int .u32 0,.int .i64 0,.int .i64 0,.int .u32 0,.int .u32 0,.string ⟨#[]⟩,.int .u32 0,.int .u32 0,.bool false,.int .u32 0,.bool false,.int .u32 0,.int .u32 0,.int .u32 0,.int .u64 0,.bool false,.bool false],.slice none 0 0,.slice none 0 0,.slice none 0 0] 8 rfl (by kernel_rfl) (by kernel_rfl) (by kernel_rfl) (by kernel_rfl) (by kernel_rfl) (Ze9 os _)) ?_
 intro W base args ds gs before M9 hW Jam fv hL _
 exact Zou laidOut M8 (by kernel_rfl) Tryz.underlying4 rfl (λds hd=>by match ds,hd with|[d0,d1,d2,d3,d4],_=>exact⟨rfl,rfl,rfl⟩) called W base args ds gs before M9 hW fv (xa hL)
theorem named:Tryz.pinned.checked.prog.funcNamed Rows.auditTellsRow.func=some 11:=by kernel_rfl
theorem inst:Tryz.f11.isInstance Tryz.pinned.checked.prog Rows.auditTellsRow.origin Rows.auditTellsRow.targs:=oY (by kernel_rfl)
theorem wrap:Tryz.f11.isWrapper Tryz.pinned.checked.prog Rows.auditTellsRow.wrapper Rows.auditTellsRow.mainSum:=by unfold Func.isWrapper;first|(rw[if_pos (by decide+kernel)];kernel_rfl)|(rw[if_neg (by decide+kernel)];exact⟨rfl,rfl⟩)
theorem over:Rows.auditTellsRow.holds Tryz.pinned (OpenSpec.ofChange Rows.auditTellsSpec):=
 OpenClaim.holds_of_wide 11 Tryz.f11 rfl rfl rfl rfl rfl rfl rfl ⟨rfl,rfl,rfl,rfl,rfl⟩ rfl rfl rfl rfl rfl named Tryz.func11 facts inst wrap (λos started H enc _=>lifted os started H enc)
theorem Ii:Rows.auditTellsRow.wfByText (OpenSpec.ofChange Rows.auditTellsSpec)=true:=by kernel_rfl
theorem mainIs:Tryz.pinned.checked.prog.mainIs=some ((((true, "279ca6590a8e515b94136e87bc2f19d672c507a086f40a98c56f52ca7fbfb677"):Bool×String)).1,(((true, "279ca6590a8e515b94136e87bc2f19d672c507a086f40a98c56f52ca7fbfb677"):Bool×String)).2.toList):=by kernel_rfl
theorem EM:false=Tryz.pinned.checked.prog.looks []:=by kernel_rfl
theorem Ij:([42,42,84,91,87].all λu=>!Tryz.prog.wantsStandIn u)=true:=by kernel_rfl
theorem goes:false=Rows.auditTellsRow.goesBy Tryz.pinned.checked.prog:=by kernel_rfl
theorem proved:Rows.AuditTellsCardSaid:=
 Claim7.holds_tied_plain_at .later [] [.data,.data,.data] true (true, "279ca6590a8e515b94136e87bc2f19d672c507a086f40a98c56f52ca7fbfb677") false
  over (λ_ h=>by cases h) Ii (λ_ h=>by cases h) auditTells_row_tie rfl ⟨rfl,rfl⟩ mainIs rfl
  (λf fn hf hfn=>by
   obtain rfl:f=11:=Option.some.inj (named.symm.trans hf)|>.symm
   obtain rfl:fn=Tryz.f11:=(Option.some.inj (Tryz.func11.symm.trans hfn)).symm
   exact⟨EM,λj t ht=>by
    rw[Tryz.params11]at ht
    have hm:t∈[42,42,84,91,87]:=by simpa using Array.mem_of_getElem? ht
    exact(show Tryz.prog.wantsStandIn t=false by simpa using List.all_eq_true.1 Ij t hm)⟩)
  goes
#print axioms proved
