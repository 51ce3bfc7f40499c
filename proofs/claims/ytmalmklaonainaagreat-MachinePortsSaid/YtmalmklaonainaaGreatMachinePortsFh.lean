import Derived.Shelf.Strings.Builder1
import Derived.Test.YtmalmklaonainaaGreatMachinePortsFd
import Derived.Test.YtmalmklaonainaaGreatMachinePortsShelf
import Derived.Test.YtmalmklaonainaaGreatMachinePortsBase
set_option linter.all false
namespace Go.GD
open Go
end Go.GD
namespace Go.GD
open Go Go.Proofs Go.Shelf Go.RowKit
variable {P:Program} {ρ:Ren}
end Go.GD
namespace Go.GD
open Go
theorem Q3v.of_below{P:Program}{f:FuncId}{args:List D}{res:D}(h: ∀(c:Ctx) (w:World) (vs:List Value),Q5j c w args vs->Calls P f vs.toArray w λe w'=> ∃v,e= .returned v/\(∀c',Rep c' w' res v)/\RowKit.Below w.heap.size w w'):Q3v P f args [] res []:=by
 intro c w vs hm hb hR ha
 refine(h c w vs ha).mono λe w' hq=> ?_
 obtain⟨v,he,hr,h1,h2,h3,h4,h5⟩:=hq
 have nor: ∀r x,c.R r=some x->False:=λr x hx=>by rw[hR]at hx;simp at hx
 refine⟨v,c,he,⟨⟨λr x hx=>(nor r x hx).elim,λr s x y hx=>(nor r x hx).elim,λb hbI=>⟨Nat.lt_of_lt_of_le (hm.imm b hbI).1 h4,λr x hx=>(nor r x hx).elim⟩,Nat.le_trans hm.top h4⟩,⟨rfl,Nat.le_refl _,λb hbI=>⟨hbI,h5 b (hm.imm b hbI).1⟩,λr x hx=>(nor r x hx).elim⟩,⟨h1,h2,h3,h4,λb hb' _=>h5 b hb'⟩,λb hbI=> .inl hbI,λr x hx=>(nor r x hx).elim⟩,hR,hr c⟩
theorem vc{P:Program}{f:FuncId}(H: ∀(s:ByteArray) (c:Nat) (w:World),c<=9223372036854775807->s.size*c<=140737488355328->Calls P f #[.string s, .int .i64 c] w λe w'=>e= .returned (.string ⟨(Lib.repeatL s.data.toList c).toArray⟩)/\RowKit.Below w.heap.size w w')
   {s:List UInt8} {n:Int} (h0:0<=n) (h1:n<=9223372036854775807) (h2:s.length*n.toNat<=140737488355328):Q3v P f [.str s, .int .i64 n] [] (.str (Lib.repeatL s n.toNat)) []:=by
 refine Q3v.of_below λc w vs ha=> ?_
 match vs,ha with
 | [u,v],ha=>
   have hu:u= .string ⟨s.toArray⟩:=ha.1
   have hv:v= .int .i64 n:=ha.2.1
   subst hu;subst hv
   have hn:((n.toNat:Nat):Int)=n:=Int.toNat_of_nonneg h0
   have:=H ⟨s.toArray⟩ n.toNat w (by omega) (by simpa [ByteArray.size] using h2)
   rw[hn]at this
   exact this.mono λe w' ⟨he,hb⟩=>⟨_,he,λc'=>by simp [Rep,VRep,CRep],hb⟩
