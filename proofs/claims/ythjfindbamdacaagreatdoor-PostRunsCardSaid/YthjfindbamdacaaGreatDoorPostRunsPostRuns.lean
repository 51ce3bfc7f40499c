import Derived.Test.YthjfindbamdacaaGreatDoorCards
import Derived.Test.YthjfindbamdacaaGreatDoorTie
import Derived.LaidLaws
import Derived.Stop.LaidErr
import Derived.SevenTiedAt
import Derived.Test.YthjfindbamdacaaGreatDoorPostRunsFacts
import Derived.Test.YthjfindbamdacaaGreatDoorPostRunsFin2
set_option linter.all false
namespace Go.Proofs.YthjfindbamdacaaGreatDoor.postRuns
open Go Go.GD Go.ChangeShapes Go.WideShapes Go.ChangeAt Go.RowKit
theorem own:ownKnob Tryz.prog.godebug=none:=by kernel_rfl
theorem laidOut:laidOutB Tryz.prog=true:=by kernel_rfl
def sig:List (Bool×List STy):=[(false,[.int .i64]),(false,[.sl [.int .i64]]),(false,[.int .i64]),(false,[.sl [.int .i64]]),(false,[.sl [.int .i64]])]
theorem sigOK:SigOK Tryz.prog 8 Tryz.f5.params.toList sig:=by
 rw[Tryz.params5]
 exact⟨by kernel_rfl,by kernel_rfl,by kernel_rfl,oY (by kernel_rfl),⟨by kernel_rfl,by kernel_rfl,by kernel_rfl,oY (by kernel_rfl),⟨by kernel_rfl,by kernel_rfl,by kernel_rfl,oY (by kernel_rfl),⟨by kernel_rfl,by kernel_rfl,by kernel_rfl,oY (by kernel_rfl),⟨by kernel_rfl,by kernel_rfl,by kernel_rfl,oY (by kernel_rfl),trivial⟩⟩⟩⟩⟩
theorem called(Ds:List D)(h:FitA sig Ds):Q4g Tryz.prog 5 Ds [] (.bool true) []:=by
 obtain⟨d1,Ds,rfl,h1,h⟩:=Qt4 h
 obtain⟨d2,Ds,rfl,h2,h⟩:=Qt4 h
 obtain⟨d3,Ds,rfl,h3,h⟩:=Qt4 h
 obtain⟨d4,Ds,rfl,h4,h⟩:=Qt4 h
 obtain⟨d5,Ds,rfl,h5,h⟩:=Qt4 h
 obtain rfl:=zC h
 obtain⟨kind,rfl,b1⟩:=xd (Qsp h1)
 obtain⟨prog,rfl,r2,_⟩:=Z8j (Qsp h2)
 obtain⟨steps,rfl,b3⟩:=xd (Qsp h3)
 obtain⟨order,rfl,r4,_⟩:=Z8j (Qsp h4)
 obtain⟨events,rfl,r5,_⟩:=Z8j (Qsp h5)
 obtain⟨g1,g2⟩:=runs31 kind prog steps order events r2
 have:=(Qww.absW rfl [.int .i64 kind,.sl 1 (.ints .i64 prog) false,.int .i64 steps,.sl 1 (.ints .i64 order) false,.sl 1 (.ints .i64 events) false] [] _ Bool (Qk4 kind prog steps order events) (λX=>.bool X) (λX=>[]) (by rfl) g1).1
 rw[g2]at this
 exact this
def tb0:List Int:=[0,1,28,2,29,14,24,3,30,22,20,15,25,17,4,8,31,27,13,23,21,19,16,7,26,12,18,6,11,5,10,9]
theorem qx{W:World}(h:laidMetH Tryz.prog Rows.postRunsRow.laid W):laidMet Tryz.prog [("math/bits.deBruijn32tab",Lib.tabData .u8 tb0)] W:=by
 have e:laidMetH Tryz.prog Rows.postRunsRow.laid W=laidMet Tryz.prog [("math/bits.deBruijn32tab",Lib.tabData .u8 tb0)] W:=rfl
 rw[e]at h
 exact h
theorem xx{W:World}(h:laidMetH Tryz.prog Rows.postRunsRow.laid W):Qjc (λb=>b<W.heap.size) W:=by
 have hl:=qx h
 intro x hx
 simp only[gtabs,List.mem_cons,List.mem_singleton,List.not_mem_nil,or_false]at hx
 subst hx
 ·exact qaq (by kernel_rfl) (Lib.tabIs_of_head (k:=.u8) (zs:=tb0) (g:=0) (t:=222) (e:=5) (by kernel_rfl) (by kernel_rfl) Tryz.underlying222 Tryz.underlying5 (by kernel_rfl) (by kernel_rfl) (hl))
noncomputable def Zf0 (os:Os):World:=
 let w0:=World.holding Tryz.prog os ⟨#[],#[],[]⟩
 {w0 with heap:=(w0.heap.modify 0 fun
  |.cells _ t z=>.cells (tb0.map λn=>Value.int .u8 n).toArray t z
  |o=>o)}
theorem Zb2(os:Os)(args:Array Value):laidMetH Tryz.prog Rows.postRunsRow.laid ((Zf0 os).forCall (λ_ _=>0) ⟨#[],args,[]⟩).memory:=
 laidMetH_of_parts3 (fuel:=8) (laidMet_of_run' 8 (by kernel_rfl) (by kernel_rfl)) (by kernel_rfl) (by kernel_rfl)
set_option maxRecDepth 100000 in
theorem lifted(os:Os)(started:os.Started)(H:Type)(enc:TypeId×Value->H):
 ReturnsInHanded {} Tryz.checked os 5 .any (λw args=>(Rows.postRunsSpec.pre enc Tryz.prog Tryz.f5 [] false w args/\laidMetH Tryz.prog Rows.postRunsRow.laid w)/\sizedMet enc Tryz.prog Tryz.f5 (OpenSpec.ofChange Rows.postRunsSpec) false w args) (Rows.postRunsSpec.post enc Tryz.prog Tryz.f5 false true false false):=by
 refine returnsInHanded_of_change_and (C:=Tryz.checked) (X:=λw _=>laidMetH Tryz.prog Rows.postRunsRow.laid w) (λ_ _ _ hh h=>h.of_heap hh) own started (by kernel_rfl) Tryz.func5
  (ChangeSpec.witness_at (enc:=enc) (C:=Tryz.checked) (os:=os) (X:=λw _=>laidMetH Tryz.prog Rows.postRunsRow.laid w) false (Zf0 os) #[.int .i64 0,.slice none 0 0,.int .i64 0,.slice none 0 0,.slice none 0 0] 8 rfl (by kernel_rfl) (by kernel_rfl) (by kernel_rfl) (by kernel_rfl) (by kernel_rfl) (Zb2 os _)) ?_
 intro W base args ds gs before hval0 hW hcnd hsz hL _
 exact Zlj laidOut sigOK (by kernel_rfl) Tryz.underlying4 rfl (λds hd=>by match ds,hd with|[d0,d1,d2,d3,d4],_=>exact⟨rfl,rfl,rfl⟩) called W base args ds gs before hval0 hW hsz (xx hL)
theorem named:Tryz.pinned.checked.prog.funcNamed Rows.postRunsRow.func=some 5:=by kernel_rfl
theorem inst:Tryz.f5.isInstance Tryz.pinned.checked.prog Rows.postRunsRow.origin Rows.postRunsRow.targs:=oY (by kernel_rfl)
theorem wrap:Tryz.f5.isWrapper Tryz.pinned.checked.prog Rows.postRunsRow.wrapper Rows.postRunsRow.mainSum:=by unfold Func.isWrapper;first|(rw[if_pos (by decide+kernel)];kernel_rfl)|(rw[if_neg (by decide+kernel)];exact⟨rfl,rfl⟩)
theorem over:Rows.postRunsRow.holds Tryz.pinned (OpenSpec.ofChange Rows.postRunsSpec):=
 OpenClaim.holds_of_wide 5 Tryz.f5 rfl rfl rfl rfl rfl rfl rfl ⟨rfl,rfl,rfl,rfl,rfl⟩ rfl rfl rfl rfl rfl named Tryz.func5 facts inst wrap (λos started H enc _=>lifted os started H enc)
theorem wfText:Rows.postRunsRow.wfByText (OpenSpec.ofChange Rows.postRunsSpec)=true:=by kernel_rfl
theorem mainIs:Tryz.pinned.checked.prog.mainIs=some ((((true, "279ca6590a8e515b94136e87bc2f19d672c507a086f40a98c56f52ca7fbfb677"):Bool×String)).1,(((true, "279ca6590a8e515b94136e87bc2f19d672c507a086f40a98c56f52ca7fbfb677"):Bool×String)).2.toList):=by kernel_rfl
theorem noLooks:false=Tryz.pinned.checked.prog.looks []:=by kernel_rfl
theorem stands:([3,22,3,22,22].all λu=>!Tryz.prog.wantsStandIn u)=true:=by kernel_rfl
theorem goes:false=Rows.postRunsRow.goesBy Tryz.pinned.checked.prog:=by kernel_rfl
theorem proved:Rows.PostRunsCardSaid:=
 Claim7.holds_tied_plain_at .later [] [.data] true (true, "279ca6590a8e515b94136e87bc2f19d672c507a086f40a98c56f52ca7fbfb677") false
  over (λ_ h=>by cases h) wfText (λ_ h=>by cases h) postRuns_row_tie rfl ⟨rfl,rfl⟩ mainIs rfl
  (λf fn hf hfn=>by
   obtain rfl:f=5:=Option.some.inj (named.symm.trans hf)|>.symm
   obtain rfl:fn=Tryz.f5:=(Option.some.inj (Tryz.func5.symm.trans hfn)).symm
   exact⟨noLooks,λj t ht=>by
    rw[Tryz.params5]at ht
    have hm:t∈[3,22,3,22,22]:=by simpa using Array.mem_of_getElem? ht
    exact(show Tryz.prog.wantsStandIn t=false by simpa using List.all_eq_true.1 stands t hm)⟩)
  goes
#print axioms proved
