import Derived.Test.YthjfindbamdacaaGreatDoorCards
import Derived.Test.YthjfindbamdacaaGreatDoorTie
import Derived.LaidLaws
import Derived.Stop.LaidErr
import Derived.SevenTiedAt
import Derived.Test.YthjfindbamdacaaGreatDoorAuditFindsFacts
import Derived.Test.YthjfindbamdacaaGreatDoorAuditFindsFin2
set_option linter.all false
namespace Go.Proofs.YthjfindbamdacaaGreatDoor.auditFinds
open Go Go.GD Go.ChangeShapes Go.WideShapes Go.ChangeAt Go.RowKit
theorem own:ownKnob Tryz.prog.godebug=none:=by kernel_rfl
theorem laidOut:laidOutB Tryz.prog=true:=by kernel_rfl
def sig:List (Bool×List lJ):=[(false,[.int .i64]),(false,[.sl [.int .i64]]),(false,[.sl [.int .i64]]),(false,[.sl [.int .i64]]),(false,[.int .i64]),(false,[.int .u64])]
theorem MV:r6 Tryz.prog 8 Tryz.f7.params.toList sig:=by
 rw[Tryz.params7]
 exact⟨by kernel_rfl,by kernel_rfl,by kernel_rfl,oY (by kernel_rfl),⟨by kernel_rfl,by kernel_rfl,by kernel_rfl,oY (by kernel_rfl),⟨by kernel_rfl,by kernel_rfl,by kernel_rfl,oY (by kernel_rfl),⟨by kernel_rfl,by kernel_rfl,by kernel_rfl,oY (by kernel_rfl),⟨by kernel_rfl,by kernel_rfl,by kernel_rfl,oY (by kernel_rfl),⟨by kernel_rfl,by kernel_rfl,by kernel_rfl,oY (by kernel_rfl),trivial⟩⟩⟩⟩⟩⟩
theorem called(Ds:List D)(h:lq sig Ds):Q3 Tryz.prog 7 Ds [] (.bool true) []:=by
 obtain⟨d1,Ds,rfl,h1,h⟩:=Kl h
 obtain⟨d2,Ds,rfl,h2,h⟩:=Kl h
 obtain⟨d3,Ds,rfl,h3,h⟩:=Kl h
 obtain⟨d4,Ds,rfl,h4,h⟩:=Kl h
 obtain⟨d5,Ds,rfl,h5,h⟩:=Kl h
 obtain⟨d6,Ds,rfl,h6,h⟩:=Kl h
 obtain rfl:=qH h
 obtain⟨kind,rfl,b1⟩:=VX (Km h1)
 obtain⟨prog,rfl,r2,_⟩:=VY (Km h2)
 obtain⟨events,rfl,r3,_⟩:=VY (Km h3)
 obtain⟨l,rfl,r4,_⟩:=VY (Km h4)
 obtain⟨jP,rfl,b5⟩:=VX (Km h5)
 obtain⟨hash,rfl,b6⟩:=VX (Km h6)
 obtain⟨g1,g2⟩:=EB kind prog events l jP hash ⟨b6.1,by have:IntKind.u64.max=18446744073709551615:=rfl;have:=b6.2;omega⟩ r2
 have:=(Qt7.lM rfl [.int .i64 kind,.sl 1 (.ints .i64 prog) false,.sl 1 (.ints .i64 events) false,.sl 1 (.ints .i64 l) false,.int .i64 jP,.int .u64 hash] [] _ Bool (Qfg kind prog events l jP hash) (λX=>.bool X) (λX=>[]) (by rfl) g1).1
 rw[g2]at this
 exact this
def Si:List Int:=[0,1,28,2,29,14,24,3,30,22,20,15,25,17,4,8,31,27,13,23,21,19,16,7,26,12,18,6,11,5,10,9]
def VZ:List Int:=[0,1,56,2,57,49,28,3,61,58,42,50,38,29,17,4,62,47,59,36,45,43,51,22,53,39,33,30,24,18,12,5,63,55,48,27,60,41,37,16,46,35,44,21,52,32,23,11,54,26,40,15,34,20,31,10,25,14,19,9,13,8,7,6]
def Sj:List Int:=[1,10,100,1000,10000,100000,1000000,10000000,100000000,1000000000,10000000000,100000000000,1000000000000,10000000000000,100000000000000,1000000000000000,10000000000000000,100000000000000000,1000000000000000000,10000000000000000000]
theorem qa{W:World}(h:laidMetH Tryz.prog Rows.auditFindsRow.laid W):laidMet Tryz.prog [("math/bits.deBruijn32tab",Lib.tabData .u8 Si),("math/bits.deBruijn64tab",Lib.tabData .u8 VZ),("internal/strconv.uint64pow10",Lib.tabData .u64 Sj)] W:=by
 have e:laidMetH Tryz.prog Rows.auditFindsRow.laid W=laidMet Tryz.prog [("math/bits.deBruijn32tab",Lib.tabData .u8 Si),("math/bits.deBruijn64tab",Lib.tabData .u8 VZ),("internal/strconv.uint64pow10",Lib.tabData .u64 Sj)] W:=rfl
 rw[e]at h
 exact h
theorem xa{W:World}(h:laidMetH Tryz.prog Rows.auditFindsRow.laid W):tp (λb=>b<W.heap.size) W:=by
 have hl:=qa h
 intro x hx
 simp only[Kn,List.mem_cons,List.mem_singleton,List.not_mem_nil,or_false]at hx
 rcases hx with rfl|rfl
 ·exact xW (by kernel_rfl) (Lib.tabIs_of_head (k:=.u8) (zs:=Si) (g:=0) (t:=222) (e:=5) (by kernel_rfl) (by kernel_rfl) Tryz.underlying222 Tryz.underlying5 (by kernel_rfl) (by kernel_rfl) (hl))
 ·exact xW (by kernel_rfl) (Lib.tabIs_of_head (k:=.u64) (zs:=Sj) (g:=1) (t:=359) (e:=40) (by kernel_rfl) (by kernel_rfl) Tryz.underlying359 Tryz.underlying40 (by kernel_rfl) (by kernel_rfl) (hl.tail.tail))
noncomputable def Zft (os:Os):World:=
 let w0:=World.holding Tryz.prog os ⟨#[],#[],[]⟩
 {w0 with heap:=(((w0.heap.modify 0 fun
  |.cells _ t z=>.cells (Si.map λn=>Value.int .u8 n).toArray t z
  |o=>o).modify 3 fun
  |.cells _ t z=>.cells (VZ.map λn=>Value.int .u8 n).toArray t z
  |o=>o).modify 1 fun
  |.cells _ t z=>.cells (Sj.map λn=>Value.int .u64 n).toArray t z
  |o=>o)}
theorem Zdr(os:Os)(args:Array Value):laidMetH Tryz.prog Rows.auditFindsRow.laid ((Zft os).forCall (λ_ _=>0) ⟨#[],args,[]⟩).memory:=
 laidMetH_of_parts3 (fuel:=8) (laidMet_of_run' 8 (by kernel_rfl) (by kernel_rfl)) (by kernel_rfl) (by kernel_rfl)
set_option maxRecDepth 100000 in
theorem lifted(os:Os)(started:os.Started)(H:Type)(enc:TypeId×Value->H):
 ReturnsInHanded {} Tryz.checked os 7 .any (λw args=>(Rows.auditFindsSpec.pre enc Tryz.prog Tryz.f7 [] false w args/\laidMetH Tryz.prog Rows.auditFindsRow.laid w)/\sizedMet enc Tryz.prog Tryz.f7 (OpenSpec.ofChange Rows.auditFindsSpec) false w args) (Rows.auditFindsSpec.post enc Tryz.prog Tryz.f7 false true false false):=by
 refine returnsInHanded_of_change_and (C:=Tryz.checked) (X:=λw _=>laidMetH Tryz.prog Rows.auditFindsRow.laid w) (λ_ _ _ hh h=>h.of_heap hh) own started (by kernel_rfl) Tryz.func7
  (ChangeSpec.witness_at (enc:=enc) (C:=Tryz.checked) (os:=os) (X:=λw _=>laidMetH Tryz.prog Rows.auditFindsRow.laid w) false (Zft os) #[.int .i64 0,.slice none 0 0,.slice none 0 0,.slice none 0 0,.int .i64 0,.int .u64 0] 8 rfl (by kernel_rfl) (by kernel_rfl) (by kernel_rfl) (by kernel_rfl) (by kernel_rfl) (Zdr os _)) ?_
 intro W base args ds gs before MW hW Jan fw hL _
 exact Zqh laidOut MV (by kernel_rfl) Tryz.underlying4 rfl (λds hd=>by match ds,hd with|[d0,d1,d2,d3,d4,d5],_=>exact⟨rfl,rfl,rfl⟩) called W base args ds gs before MW hW fw (xa hL)
theorem named:Tryz.pinned.checked.prog.funcNamed Rows.auditFindsRow.func=some 7:=by kernel_rfl
theorem inst:Tryz.f7.isInstance Tryz.pinned.checked.prog Rows.auditFindsRow.origin Rows.auditFindsRow.targs:=oY (by kernel_rfl)
theorem wrap:Tryz.f7.isWrapper Tryz.pinned.checked.prog Rows.auditFindsRow.wrapper Rows.auditFindsRow.mainSum:=by unfold Func.isWrapper;first|(rw[if_pos (by decide+kernel)];kernel_rfl)|(rw[if_neg (by decide+kernel)];exact⟨rfl,rfl⟩)
theorem over:Rows.auditFindsRow.holds Tryz.pinned (OpenSpec.ofChange Rows.auditFindsSpec):=
 OpenClaim.holds_of_wide 7 Tryz.f7 rfl rfl rfl rfl rfl rfl rfl ⟨rfl,rfl,rfl,rfl,rfl⟩ rfl rfl rfl rfl rfl named Tryz.func7 facts inst wrap (λos started H enc _=>lifted os started H enc)
theorem H8:Rows.auditFindsRow.wfByText (OpenSpec.ofChange Rows.auditFindsSpec)=true:=by kernel_rfl
theorem mainIs:Tryz.pinned.checked.prog.mainIs=some ((((true, "279ca6590a8e515b94136e87bc2f19d672c507a086f40a98c56f52ca7fbfb677"):Bool×String)).1,(((true, "279ca6590a8e515b94136e87bc2f19d672c507a086f40a98c56f52ca7fbfb677"):Bool×String)).2.toList):=by kernel_rfl
theorem EC:false=Tryz.pinned.checked.prog.looks []:=by kernel_rfl
theorem H9:([3,22,22,22,3,40].all λu=>!Tryz.prog.wantsStandIn u)=true:=by kernel_rfl
theorem goes:false=Rows.auditFindsRow.goesBy Tryz.pinned.checked.prog:=by kernel_rfl
theorem proved:Rows.AuditFindsCardSaid:=
 Claim7.holds_tied_plain_at .later [] [.data,.data,.data] true (true, "279ca6590a8e515b94136e87bc2f19d672c507a086f40a98c56f52ca7fbfb677") false
  over (λ_ h=>by cases h) H8 (λ_ h=>by cases h) auditFinds_row_tie rfl ⟨rfl,rfl⟩ mainIs rfl
  (λf fn hf hfn=>by
   obtain rfl:f=7:=Option.some.inj (named.symm.trans hf)|>.symm
   obtain rfl:fn=Tryz.f7:=(Option.some.inj (Tryz.func7.symm.trans hfn)).symm
   exact⟨EC,λj t ht=>by
    rw[Tryz.params7]at ht
    have hm:t∈[3,22,22,22,3,40]:=by simpa using Array.mem_of_getElem? ht
    exact(show Tryz.prog.wantsStandIn t=false by simpa using List.all_eq_true.1 H9 t hm)⟩)
  goes
#print axioms proved
