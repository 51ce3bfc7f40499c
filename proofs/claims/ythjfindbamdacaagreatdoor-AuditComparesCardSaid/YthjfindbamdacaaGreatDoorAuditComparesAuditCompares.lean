import Derived.Test.YthjfindbamdacaaGreatDoorCards
import Derived.Test.YthjfindbamdacaaGreatDoorTie
import Derived.LaidLaws
import Derived.Stop.LaidErr
import Derived.SevenTiedAt
import Derived.Test.YthjfindbamdacaaGreatDoorAuditComparesFacts
import Derived.Test.YthjfindbamdacaaGreatDoorAuditComparesFin2
set_option linter.all false
namespace Go.Proofs.YthjfindbamdacaaGreatDoor.auditCompares
open Go Go.GD Go.ChangeShapes Go.WideShapes Go.ChangeAt Go.RowKit
theorem own:ownKnob Tryz.prog.godebug=none:=by kernel_rfl
theorem laidOut:laidOutB Tryz.prog=true:=by kernel_rfl
def sig:List (Bool×List lj):=[(false,[.int .i64]),(false,[.sl [.int .i64]]),(false,[.int .i64]),(false,[.int .i64])]
theorem Mi:rD Tryz.prog 8 Tryz.f9.params.toList sig:=by
 rw[Tryz.params9]
 exact⟨by kernel_rfl,by kernel_rfl,by kernel_rfl,oY (by kernel_rfl),⟨by kernel_rfl,by kernel_rfl,by kernel_rfl,oY (by kernel_rfl),⟨by kernel_rfl,by kernel_rfl,by kernel_rfl,oY (by kernel_rfl),⟨by kernel_rfl,by kernel_rfl,by kernel_rfl,oY (by kernel_rfl),trivial⟩⟩⟩⟩
theorem called(Ds:List D)(h:kT sig Ds):jZ Tryz.prog 9 Ds [] (.bool true) []:=by
 obtain⟨d1,Ds,rfl,h1,h⟩:=Rr h
 obtain⟨d2,Ds,rfl,h2,h⟩:=Rr h
 obtain⟨d3,Ds,rfl,h3,h⟩:=Rr h
 obtain⟨d4,Ds,rfl,h4,h⟩:=Rr h
 obtain rfl:=xF h
 obtain⟨kind,rfl,_⟩:=U5 (Rs h1)
 obtain⟨prog,rfl,r2,_⟩:=qF (Rs h2)
 obtain⟨steps,rfl,_⟩:=U5 (Rs h3)
 obtain⟨n,rfl,_⟩:=U5 (Rs h4)
 obtain⟨g1,g2⟩:=Zmt kind prog steps n r2
 have:=(Qmc.lr rfl [.int .i64 kind,.sl 1 (.ints .i64 prog) false,.int .i64 steps,.int .i64 n] [] _ Bool (Qap kind prog steps n) (λX=>.bool X) (λX=>[]) (by rfl) g1).1
 rw[g2]at this
 exact this
def Rt:List Int:=[0,1,28,2,29,14,24,3,30,22,20,15,25,17,4,8,31,27,13,23,21,19,16,7,26,12,18,6,11,5,10,9]
def U6:List Int:=[0,1,56,2,57,49,28,3,61,58,42,50,38,29,17,4,62,47,59,36,45,43,51,22,53,39,33,30,24,18,12,5,63,55,48,27,60,41,37,16,46,35,44,21,52,32,23,11,54,26,40,15,34,20,31,10,25,14,19,9,13,8,7,6]
def Ru:List Int:=[1,10,100,1000,10000,100000,1000000,10000000,100000000,1000000000,10000000000,100000000000,1000000000000,10000000000000,100000000000000,1000000000000000,10000000000000000,100000000000000000,1000000000000000000,10000000000000000000]
theorem qa{W:World}(h:laidMetH Tryz.prog Rows.auditComparesRow.laid W):laidMet Tryz.prog [("math/bits.deBruijn32tab",Lib.tabData .u8 Rt),("math/bits.deBruijn64tab",Lib.tabData .u8 U6),("internal/strconv.uint64pow10",Lib.tabData .u64 Ru)] W:=by
 have e:laidMetH Tryz.prog Rows.auditComparesRow.laid W=laidMet Tryz.prog [("math/bits.deBruijn32tab",Lib.tabData .u8 Rt),("math/bits.deBruijn64tab",Lib.tabData .u8 U6),("internal/strconv.uint64pow10",Lib.tabData .u64 Ru)] W:=rfl
 rw[e]at h
 exact h
theorem xa{W:World}(h:laidMetH Tryz.prog Rows.auditComparesRow.laid W):sT (λb=>b<W.heap.size) W:=by
 have hl:=qa h
 intro x hx
 simp only[JM,List.mem_cons,List.mem_singleton,List.not_mem_nil,or_false]at hx
 rcases hx with rfl|rfl
 ·exact zW (by kernel_rfl) (Lib.tabIs_of_head (k:=.u8) (zs:=Rt) (g:=0) (t:=222) (e:=5) (by kernel_rfl) (by kernel_rfl) Tryz.underlying222 Tryz.underlying5 (by kernel_rfl) (by kernel_rfl) (hl))
 ·exact zW (by kernel_rfl) (Lib.tabIs_of_head (k:=.u64) (zs:=Ru) (g:=1) (t:=359) (e:=40) (by kernel_rfl) (by kernel_rfl) Tryz.underlying359 Tryz.underlying40 (by kernel_rfl) (by kernel_rfl) (hl.tail.tail))
noncomputable def Zfw (os:Os):World:=
 let w0:=World.holding Tryz.prog os ⟨#[],#[],[]⟩
 {w0 with heap:=(((w0.heap.modify 0 fun
  |.cells _ t z=>.cells (Rt.map λn=>Value.int .u8 n).toArray t z
  |o=>o).modify 3 fun
  |.cells _ t z=>.cells (U6.map λn=>Value.int .u8 n).toArray t z
  |o=>o).modify 1 fun
  |.cells _ t z=>.cells (Ru.map λn=>Value.int .u64 n).toArray t z
  |o=>o)}
theorem Zbz(os:Os)(args:Array Value):laidMetH Tryz.prog Rows.auditComparesRow.laid ((Zfw os).forCall (λ_ _=>0) ⟨#[],args,[]⟩).memory:=
 laidMetH_of_parts3 (fuel:=8) (laidMet_of_run' 8 (by kernel_rfl) (by kernel_rfl)) (by kernel_rfl) (by kernel_rfl)
set_option maxRecDepth 100000 in
theorem lifted(os:Os)(started:os.Started)(H:Type)(enc:TypeId×Value->H):
 ReturnsInHanded {} Tryz.checked os 9 .any (λw args=>(Rows.auditComparesSpec.pre enc Tryz.prog Tryz.f9 [] false w args/\laidMetH Tryz.prog Rows.auditComparesRow.laid w)/\sizedMet enc Tryz.prog Tryz.f9 (OpenSpec.ofChange Rows.auditComparesSpec) false w args) (Rows.auditComparesSpec.post enc Tryz.prog Tryz.f9 false true false false):=by
 refine returnsInHanded_of_change_and (C:=Tryz.checked) (X:=λw _=>laidMetH Tryz.prog Rows.auditComparesRow.laid w) (λ_ _ _ hh h=>h.of_heap hh) own started (by kernel_rfl) Tryz.func9
  (ChangeSpec.witness_at (enc:=enc) (C:=Tryz.checked) (os:=os) (X:=λw _=>laidMetH Tryz.prog Rows.auditComparesRow.laid w) false (Zfw os) #[.int .i64 0,.slice none 0 0,.int .i64 0,.int .i64 0] 8 rfl (by kernel_rfl) (by kernel_rfl) (by kernel_rfl) (by kernel_rfl) (by kernel_rfl) (Zbz os _)) ?_
 intro W base args ds gs before Mj hW Jac fp hL _
 exact Zm6 laidOut Mi (by kernel_rfl) Tryz.underlying4 rfl (λds hd=>by match ds,hd with|[d0,d1,d2,d3],_=>exact⟨rfl,rfl,rfl⟩) called W base args ds gs before Mj hW fp (xa hL)
theorem named:Tryz.pinned.checked.prog.funcNamed Rows.auditComparesRow.func=some 9:=by kernel_rfl
theorem inst:Tryz.f9.isInstance Tryz.pinned.checked.prog Rows.auditComparesRow.origin Rows.auditComparesRow.targs:=oY (by kernel_rfl)
theorem wrap:Tryz.f9.isWrapper Tryz.pinned.checked.prog Rows.auditComparesRow.wrapper Rows.auditComparesRow.mainSum:=by unfold Func.isWrapper;first|(rw[if_pos (by decide+kernel)];kernel_rfl)|(rw[if_neg (by decide+kernel)];exact⟨rfl,rfl⟩)
theorem over:Rows.auditComparesRow.holds Tryz.pinned (OpenSpec.ofChange Rows.auditComparesSpec):=
 OpenClaim.holds_of_wide 9 Tryz.f9 rfl rfl rfl rfl rfl rfl rfl ⟨rfl,rfl,rfl,rfl,rfl⟩ rfl rfl rfl rfl rfl named Tryz.func9 facts inst wrap (λos started H enc _=>lifted os started H enc)
theorem Hx:Rows.auditComparesRow.wfByText (OpenSpec.ofChange Rows.auditComparesSpec)=true:=by kernel_rfl
theorem mainIs:Tryz.pinned.checked.prog.mainIs=some ((((true, "279ca6590a8e515b94136e87bc2f19d672c507a086f40a98c56f52ca7fbfb677"):Bool×String)).1,(((true, "279ca6590a8e515b94136e87bc2f19d672c507a086f40a98c56f52ca7fbfb677"):Bool×String)).2.toList):=by kernel_rfl
theorem DU:false=Tryz.pinned.checked.prog.looks []:=by kernel_rfl
theorem Hy:([3,22,3,3].all λu=>!Tryz.prog.wantsStandIn u)=true:=by kernel_rfl
theorem goes:false=Rows.auditComparesRow.goesBy Tryz.pinned.checked.prog:=by kernel_rfl
theorem proved:Rows.AuditComparesCardSaid:=
 Claim7.holds_tied_plain_at .later [] [.data,.data,.data] true (true, "279ca6590a8e515b94136e87bc2f19d672c507a086f40a98c56f52ca7fbfb677") false
  over (λ_ h=>by cases h) Hx (λ_ h=>by cases h) auditCompares_row_tie rfl ⟨rfl,rfl⟩ mainIs rfl
  (λf fn hf hfn=>by
   obtain rfl:f=9:=Option.some.inj (named.symm.trans hf)|>.symm
   obtain rfl:fn=Tryz.f9:=(Option.some.inj (Tryz.func9.symm.trans hfn)).symm
   exact⟨DU,λj t ht=>by
    rw[Tryz.params9]at ht
    have hm:t∈[3,22,3,3]:=by simpa using Array.mem_of_getElem? ht
    exact(show Tryz.prog.wantsStandIn t=false by simpa using List.all_eq_true.1 Hy t hm)⟩)
  goes
#print axioms proved
