import Derived.Shelf.Strings.Builder1
import Derived.Test.YthjfindbamdacaaGreatDoorPostRunsFd
import Derived.Test.YthjfindbamdacaaGreatDoorPostRunsShelf
import Derived.Test.YthjfindbamdacaaGreatDoorPostRunsBase
import Derived.Shelf.Spec.SlicesGrow
import Derived.Lib.ItoaNum
import Derived.Lib.ItoaMem
import Derived.Shelf.Strconv.Itoa3
open Int renaming toNat_of_nonneg->cK
set_option linter.all false
namespace Go.GD
open Go
end Go.GD
namespace Go.GD
open Go Go.Proofs Go.Shelf Go.RowKit
variable {P:Program} {ρ:Ren}
end Go.GD
namespace Go.GD
open Go
theorem Q4g.of_mem{P:Program}{f:FuncId}{args:List D}{res:D}(h:∀(c:Ctx) (w:World) (vs:List Value),Qjc c.I w->Q83 c w args vs->Calls P f vs.toArray w λe w'=>∃v,e=.returned v/\(∀c',Rep c' w' res v)/\RowKit.Below w.heap.size w w'):Q4g P f args [] res []:=by
 intro c w vs hm hb hR ha
 refine(h c w vs hm.tab ha).mono λe w' hq=>?_
 obtain⟨v,he,hr,h1,h2,h3,h4,h5⟩:=hq
 have nor:∀r x,c.R r=some x->False:=λr x hx=>by rw[hR]at hx;simp at hx
 refine⟨v,c,he,⟨⟨λr x hx=>(nor r x hx).elim,λr s x y hx=>(nor r x hx).elim,λb hbI=>⟨Nat.lt_of_lt_of_le (hm.imm b hbI).1 h4,λr x hx=>(nor r x hx).elim⟩,Nat.le_trans hm.top h4,hm.tab.mono λb hb=>⟨hb,h5 b (hm.imm b hb).1⟩⟩,⟨rfl,Nat.le_refl _,λb hbI=>⟨hbI,h5 b (hm.imm b hbI).1⟩,λr x hx=>(nor r x hx).elim⟩,⟨h1,h2,h3,h4,λb hb' _=>h5 b hb'⟩,λb hbI=>.inl hbI,λr x hx=>(nor r x hx).elim⟩,hR,hr c⟩
theorem Q4g.of_below{P:Program}{f:FuncId}{args:List D}{res:D}(h:∀(c:Ctx) (w:World) (vs:List Value),Q83 c w args vs->Calls P f vs.toArray w λe w'=>∃v,e=.returned v/\(∀c',Rep c' w' res v)/\RowKit.Below w.heap.size w w'):Q4g P f args [] res []:=
 .of_mem λc w vs _ ha=>h c w vs ha
theorem zd{P:Program}{f:FuncId}(H:∀(s:ByteArray) (c:Nat) (w:World),c<=9223372036854775807->s.size*c<=140737488355328->Calls P f #[.string s,.int .i64 c] w λe w'=>e=.returned (.string ⟨(Lib.repeatL s.data.toList c).toArray⟩)/\RowKit.Below w.heap.size w w')
 {s:List UInt8} {n:Int} (h0:0<=n) (h1:n<=9223372036854775807) (h2:s.length*n.toNat<=140737488355328):Q4g P f [.str s,.int .i64 n] [] (.str (Lib.repeatL s n.toNat)) []:=by
 refine Q4g.of_below λc w vs ha=>?_
 match vs,ha with
 |[u,v],ha=>
  have hu:u=.string ⟨s.toArray⟩:=ha.1
  have hv:v=.int .i64 n:=ha.2.1
  subst hu;subst hv
  have hn:((n.toNat:Nat):Int)=n:=cK h0
  have:=H ⟨s.toArray⟩ n.toNat w (by omega) (by simpa[ByteArray.size]using h2)
  rw[hn]at this
  exact this.mono λe w' ⟨he,hb⟩=>⟨_,he,λc'=>by simp[Rep,VRep,CRep],hb⟩
theorem Qjc.at{I:Blocks}{w:World}(h:Qjc I w){g:Nat}{l:List Nat}(hm:(g,IntKind.u8,l.map λ(n:Nat)=>(n:Int))∈gtabs):Proofs.TabAt g l w:=by
 obtain⟨_,ty,fz,h2⟩:=h _ hm
 intro j hj
 simp only[World.cell?,h2]
 simp[hj]
theorem qY{P:Program}{f:FuncId}{g:Nat}(H:∀(x:Nat),x<4294967296->∀w:World,(x≠0->Proofs.TabAt g Lib.deBruijn32tab w)->Calls P f #[.int .u32 x] w λe w'=>e=.returned (.int .i64 (Lib.ctz 32 x))/\w'=w)(hm:(g,IntKind.u8,Lib.deBruijn32tab.map λ(n:Nat)=>(n:Int))∈gtabs){x:Int}(h0:0<=x)(h1:x<4294967296):Q4g P f [.int .u32 x] [] (.int .i64 (Lib.ctz 32 x.toNat)) []:=by
 refine Q4g.of_mem λc w vs ht ha=>?_
 match vs,ha with
 |[v],ha=>
  have hv:v=.int .u32 x:=ha.1
  subst hv
  have hn:((x.toNat:Nat):Int)=x:=cK h0
  have:=H x.toNat (by omega) w λ_=>ht.at hm
  rw[hn]at this
  refine this.mono λe w' ⟨he,hb⟩=>⟨_,he,λc'=>by simp[Rep,VRep,CRep],?_⟩
  subst hb
  exact⟨rfl,rfl,rfl,Nat.le_refl _,λ_ _=>rfl⟩
