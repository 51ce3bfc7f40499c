import Derived.Test.YtoijmgbahaekiaaGreatTopJournalFacts
import Derived.Test.YtoijmgbahaekiaaGreatTopJournalFin2
set_option linter.all false
namespace Go.Proofs.YtoijmgbahaekiaaGreat.topJournal
open Go Go.GD Go.ChangeShapes Go.WideShapes Go.ChangeAt Go.RowKit
theorem own:ownKnob Tryz.prog.godebug=none:=by kernel_rfl
theorem laidOut:laidOutB Tryz.prog=true:=by kernel_rfl
def sig:List (Bool×List STy):=[(false,[.sl [.int .i64,.str,.int .i64,.int .i64,.int .i64,.int .i64,.int .i64,.int .i64,.int .i64,.int .i64,.bool]]),(false,[.sl [.int .i64]]),(false,[.int .i64])]
theorem sigOK:SigOK Tryz.prog 8 Tryz.f5.params.toList sig:=by
 rw[Tryz.params5]
 exact⟨by kernel_rfl,by kernel_rfl,by kernel_rfl,oY (by kernel_rfl),⟨by kernel_rfl,by kernel_rfl,by kernel_rfl,oY (by kernel_rfl),⟨by kernel_rfl,by kernel_rfl,by kernel_rfl,oY (by kernel_rfl),trivial⟩⟩⟩
theorem called(Ds:List D)(h:FitA sig Ds):Q2f Tryz.prog 5 Ds [] (.bool true) []:=by
 obtain⟨d1,Ds,rfl,h1,h⟩:=Z17 h
 obtain⟨d2,Ds,rfl,h2,h⟩:=Z17 h
 obtain⟨d3,Ds,rfl,h3,h⟩:=Z17 h
 obtain rfl:=vz h
 obtain⟨l,hs,hl⟩:=Zbp (Z34 h1)
 obtain⟨made,rfl,_,_⟩:=yz (Z34 h2)
 obtain⟨cut,rfl,_⟩:=Qfy (Z34 h3)
 obtain⟨g1,g2⟩:=Tree.pp (W:=λr=>r=true) (law_w made cut hl)
 have:=(Qq5.absW rfl [.sl 11 (.recs .apiManage l) false,.sl 1 (.ints .i64 made) false,.int .i64 cut] [] _ Bool (Qfz l made cut) (λX=>.bool X) (λX=>[]) (by rfl) g1).1
 rw[show Qfz l made cut=true from g2]at this
 exact Q2f.sub (args':=[.sl 11 (.recs .apiManage l) false,.sl 1 (.ints .i64 made) false,.int .i64 cut]) ⟨hs,Sub1.rfl,Sub1.rfl,trivial⟩ this
set_option maxRecDepth 100000 in
theorem lifted(os:Os)(started:os.Started)(H:Type)(enc:TypeId×Value->H):
 ReturnsInHanded {} Tryz.checked os 5 .any (Rows.topJournalSpec.pre6 enc Tryz.prog Tryz.f5 Rows.topJournalRow.domain false) (Rows.topJournalSpec.post enc Tryz.prog Tryz.f5 false true false false):=by
 refine returnsInHanded_of_change_sized (C:=Tryz.checked) own started (by kernel_rfl) Tryz.func5
  (ChangeSpec.witness6 (enc:=enc) (C:=Tryz.checked) false ⟨#[],#[.slice none 0 0,.slice none 0 0,.int .i64 0],[]⟩ 8 (by kernel_rfl) (by kernel_rfl) (by kernel_rfl) (by kernel_rfl)) ?_
 intro W base args ds gs before hval0 hW hcnd hsz _
 exact Zbm laidOut sigOK (by kernel_rfl) Tryz.underlying4 rfl (λds hd=>by match ds,hd with|[d0,d1,d2],_=>exact⟨rfl,rfl,rfl⟩) called W base args ds gs before hval0 hW hsz (λ_ hx=>nomatch hx)
theorem named:Tryz.pinned.checked.prog.funcNamed Rows.topJournalRow.func=some 5:=by kernel_rfl
theorem inst:Tryz.f5.isInstance Tryz.pinned.checked.prog Rows.topJournalRow.origin Rows.topJournalRow.targs:=oY (by kernel_rfl)
theorem wrap:Tryz.f5.isWrapper Tryz.pinned.checked.prog Rows.topJournalRow.wrapper Rows.topJournalRow.mainSum:=by unfold Func.isWrapper;first|(rw[if_pos (by decide+kernel)];kernel_rfl)|(rw[if_neg (by decide+kernel)];exact⟨rfl,rfl⟩)
theorem over:Rows.topJournalRow.holds Tryz.pinned (OpenSpec.ofChange Rows.topJournalSpec):=
 OpenClaim.holds_of_wide 5 Tryz.f5 rfl rfl rfl rfl rfl rfl rfl ⟨rfl,rfl,rfl,rfl,rfl⟩ rfl rfl rfl rfl rfl named Tryz.func5 facts inst wrap (λos started H enc _=>lifted os started H enc)
theorem proved:Rows.TopJournalSaid:=over
#print axioms proved
