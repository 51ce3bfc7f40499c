import Derived.Test.YthjfindbamdacaaGreatDoorCards
import Derived.Test.YthjfindbamdacaaGreatDoorTie
import Derived.LaidLaws
import Derived.Stop.LaidErr
import Derived.SevenTiedAt
import Derived.Test.YthjfindbamdacaaGreatDoorAuditScriptsFacts
import Derived.Test.YthjfindbamdacaaGreatDoorAuditScriptsFin2
set_option linter.all false
namespace Go.Proofs.YthjfindbamdacaaGreatDoor.auditScripts
open Go Go.GD Go.ChangeShapes Go.WideShapes Go.ChangeAt Go.RowKit
theorem own:ownKnob Tryz.prog.godebug=none:=by kernel_rfl
theorem laidOut:laidOutB Tryz.prog=true:=by kernel_rfl
def sig:List (Bool×List lK):=[(false,[.int .i64]),(false,[.sl [.int .i64]]),(false,[.sl [.int .i64]]),(false,[.sl [.int .i64]]),(false,[.int .i64])]
theorem M1:r9 Tryz.prog 8 Tryz.f8.params.toList sig:=by
 rw[Tryz.params8]
 exact⟨by kernel_rfl,by kernel_rfl,by kernel_rfl,oY (by kernel_rfl),⟨by kernel_rfl,by kernel_rfl,by kernel_rfl,oY (by kernel_rfl),⟨by kernel_rfl,by kernel_rfl,by kernel_rfl,oY (by kernel_rfl),⟨by kernel_rfl,by kernel_rfl,by kernel_rfl,oY (by kernel_rfl),⟨by kernel_rfl,by kernel_rfl,by kernel_rfl,oY (by kernel_rfl),trivial⟩⟩⟩⟩⟩
theorem called(Ds:List D)(h:lq sig Ds):j9 Tryz.prog 8 Ds [] (.bool true) []:=by
 obtain⟨d1,Ds,rfl,h1,h⟩:=M3 h
 obtain⟨d2,Ds,rfl,h2,h⟩:=M3 h
 obtain⟨d3,Ds,rfl,h3,h⟩:=M3 h
 obtain⟨d4,Ds,rfl,h4,h⟩:=M3 h
 obtain⟨d5,Ds,rfl,h5,h⟩:=M3 h
 obtain rfl:=xH h
 obtain⟨kind,rfl,b1⟩:=yd (M4 h1)
 obtain⟨prog,rfl,r2,_⟩:=V7 (M4 h2)
 obtain⟨events,rfl,r3,_⟩:=V7 (M4 h3)
 obtain⟨l,rfl,r4,_⟩:=V7 (M4 h4)
 obtain⟨change,rfl,b5⟩:=yd (M4 h5)
 obtain⟨g1,g2⟩:=Ah kind prog events l change r2
 have:=(Qnv.lO rfl [.int .i64 kind,.sl 1 (.ints .i64 prog) false,.sl 1 (.ints .i64 events) false,.sl 1 (.ints .i64 l) false,.int .i64 change] [] _ Bool (Qc2 kind prog events l change) (λX=>.bool X) (λX=>[]) (by rfl) g1).1
 rw[g2]at this
 exact this
def So:List Int:=[0,1,28,2,29,14,24,3,30,22,20,15,25,17,4,8,31,27,13,23,21,19,16,7,26,12,18,6,11,5,10,9]
def V8:List Int:=[0,1,56,2,57,49,28,3,61,58,42,50,38,29,17,4,62,47,59,36,45,43,51,22,53,39,33,30,24,18,12,5,63,55,48,27,60,41,37,16,46,35,44,21,52,32,23,11,54,26,40,15,34,20,31,10,25,14,19,9,13,8,7,6]
def Sp:List Int:=[1,10,100,1000,10000,100000,1000000,10000000,100000000,1000000000,10000000000,100000000000,1000000000000,10000000000000,100000000000000,1000000000000000,10000000000000000,100000000000000000,1000000000000000000,10000000000000000000]
theorem qa{W:World}(h:laidMetH Tryz.prog Rows.auditScriptsRow.laid W):laidMet Tryz.prog [("math/bits.deBruijn32tab",Lib.tabData .u8 So),("math/bits.deBruijn64tab",Lib.tabData .u8 V8),("internal/strconv.uint64pow10",Lib.tabData .u64 Sp)] W:=by
 have e:laidMetH Tryz.prog Rows.auditScriptsRow.laid W=laidMet Tryz.prog [("math/bits.deBruijn32tab",Lib.tabData .u8 So),("math/bits.deBruijn64tab",Lib.tabData .u8 V8),("internal/strconv.uint64pow10",Lib.tabData .u64 Sp)] W:=rfl
 rw[e]at h
 exact h
theorem xa{W:World}(h:laidMetH Tryz.prog Rows.auditScriptsRow.laid W):tz (λb=>b<W.heap.size) W:=by
 have hl:=qa h
 intro x hx
 simp only[Kt,List.mem_cons,List.mem_singleton,List.not_mem_nil,or_false]at hx
 rcases hx with rfl|rfl
 ·exact yW (by kernel_rfl) (Lib.tabIs_of_head (k:=.u8) (zs:=So) (g:=0) (t:=222) (e:=5) (by kernel_rfl) (by kernel_rfl) Tryz.underlying222 Tryz.underlying5 (by kernel_rfl) (by kernel_rfl) (hl))
 ·exact yW (by kernel_rfl) (Lib.tabIs_of_head (k:=.u64) (zs:=Sp) (g:=1) (t:=359) (e:=40) (by kernel_rfl) (by kernel_rfl) Tryz.underlying359 Tryz.underlying40 (by kernel_rfl) (by kernel_rfl) (hl.tail.tail))
noncomputable def Zi4 (os:Os):World:=
 let w0:=World.holding Tryz.prog os ⟨#[],#[],[]⟩
 {w0 with heap:=(((w0.heap.modify 0 fun
  |.cells _ t z=>.cells (So.map λn=>Value.int .u8 n).toArray t z
  |o=>o).modify 3 fun
  |.cells _ t z=>.cells (V8.map λn=>Value.int .u8 n).toArray t z
  |o=>o).modify 1 fun
  |.cells _ t z=>.cells (Sp.map λn=>Value.int .u64 n).toArray t z
  |o=>o)}
theorem Zc7(os:Os)(args:Array Value):laidMetH Tryz.prog Rows.auditScriptsRow.laid ((Zi4 os).forCall (λ_ _=>0) ⟨#[],args,[]⟩).memory:=
 laidMetH_of_parts3 (fuel:=8) (laidMet_of_run' 8 (by kernel_rfl) (by kernel_rfl)) (by kernel_rfl) (by kernel_rfl)
set_option maxRecDepth 100000 in
theorem lifted(os:Os)(started:os.Started)(H:Type)(enc:TypeId×Value->H):
 ReturnsInHanded {} Tryz.checked os 8 .any (λw args=>(Rows.auditScriptsSpec.pre enc Tryz.prog Tryz.f8 [] false w args/\laidMetH Tryz.prog Rows.auditScriptsRow.laid w)/\sizedMet enc Tryz.prog Tryz.f8 (OpenSpec.ofChange Rows.auditScriptsSpec) false w args) (Rows.auditScriptsSpec.post enc Tryz.prog Tryz.f8 false true false false):=by
 refine returnsInHanded_of_change_and (C:=Tryz.checked) (X:=λw _=>laidMetH Tryz.prog Rows.auditScriptsRow.laid w) (λ_ _ _ hh h=>h.of_heap hh) own started (by kernel_rfl) Tryz.func8
  (ChangeSpec.witness_at (enc:=enc) (C:=Tryz.checked) (os:=os) (X:=λw _=>laidMetH Tryz.prog Rows.auditScriptsRow.laid w) false (Zi4 os) #[.int .i64 0,.slice none 0 0,.slice none 0 0,.slice none 0 0,.int .i64 0] 8 rfl (by kernel_rfl) (by kernel_rfl) (by kernel_rfl) (by kernel_rfl) (by kernel_rfl) (Zc7 os _)) ?_
 intro W base args ds gs before M5 hW Jao fx hL _
 exact Zpm laidOut M1 (by kernel_rfl) Tryz.underlying4 rfl (λds hd=>by match ds,hd with|[d0,d1,d2,d3,d4],_=>exact⟨rfl,rfl,rfl⟩) called W base args ds gs before M5 hW fx (xa hL)
theorem named:Tryz.pinned.checked.prog.funcNamed Rows.auditScriptsRow.func=some 8:=by kernel_rfl
theorem inst:Tryz.f8.isInstance Tryz.pinned.checked.prog Rows.auditScriptsRow.origin Rows.auditScriptsRow.targs:=oY (by kernel_rfl)
theorem wrap:Tryz.f8.isWrapper Tryz.pinned.checked.prog Rows.auditScriptsRow.wrapper Rows.auditScriptsRow.mainSum:=by unfold Func.isWrapper;first|(rw[if_pos (by decide+kernel)];kernel_rfl)|(rw[if_neg (by decide+kernel)];exact⟨rfl,rfl⟩)
theorem over:Rows.auditScriptsRow.holds Tryz.pinned (OpenSpec.ofChange Rows.auditScriptsSpec):=
 OpenClaim.holds_of_wide 8 Tryz.f8 rfl rfl rfl rfl rfl rfl rfl ⟨rfl,rfl,rfl,rfl,rfl⟩ rfl rfl rfl rfl rfl named Tryz.func8 facts inst wrap (λos started H enc _=>lifted os started H enc)
theorem H9:Rows.auditScriptsRow.wfByText (OpenSpec.ofChange Rows.auditScriptsSpec)=true:=by kernel_rfl
theorem mainIs:Tryz.pinned.checked.prog.mainIs=some ((((true, "279ca6590a8e515b94136e87bc2f19d672c507a086f40a98c56f52ca7fbfb677"):Bool×String)).1,(((true, "279ca6590a8e515b94136e87bc2f19d672c507a086f40a98c56f52ca7fbfb677"):Bool×String)).2.toList):=by kernel_rfl
theorem EB:false=Tryz.pinned.checked.prog.looks []:=by kernel_rfl
theorem Ia:([3,22,22,22,3].all λu=>!Tryz.prog.wantsStandIn u)=true:=by kernel_rfl
theorem goes:false=Rows.auditScriptsRow.goesBy Tryz.pinned.checked.prog:=by kernel_rfl
theorem proved:Rows.AuditScriptsCardSaid:=
 Claim7.holds_tied_plain_at .later [] [.data,.data,.data] true (true, "279ca6590a8e515b94136e87bc2f19d672c507a086f40a98c56f52ca7fbfb677") false
  over (λ_ h=>by cases h) H9 (λ_ h=>by cases h) auditScripts_row_tie rfl ⟨rfl,rfl⟩ mainIs rfl
  (λf fn hf hfn=>by
   obtain rfl:f=8:=Option.some.inj (named.symm.trans hf)|>.symm
   obtain rfl:fn=Tryz.f8:=(Option.some.inj (Tryz.func8.symm.trans hfn)).symm
   exact⟨EB,λj t ht=>by
    rw[Tryz.params8]at ht
    have hm:t∈[3,22,22,22,3]:=by simpa using Array.mem_of_getElem? ht
    exact(show Tryz.prog.wantsStandIn t=false by simpa using List.all_eq_true.1 Ia t hm)⟩)
  goes
#print axioms proved
