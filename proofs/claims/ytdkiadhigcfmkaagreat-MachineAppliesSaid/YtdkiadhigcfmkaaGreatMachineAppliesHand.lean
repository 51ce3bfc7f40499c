/-
  GD: contracts of the kit's, as GD reads them.
-/
import Derived.Test.YtdkiadhigcfmkaaGreatMachineAppliesFd
import Derived.Test.YtdkiadhigcfmkaaGreatMachineAppliesShelf
import Derived.Test.YtdkiadhigcfmkaaGreatMachineAppliesBase
namespace Go.GD
open Go
set_option linter.unusedVariables false
set_option linter.unusedSimpArgs false
theorem Q31.of_below{P:Program}{f:FuncId}{args:List D}{res:D}(h: ∀(c:Ctx) (w:World) (vs:List Value),Q82 c w args vs→Calls P f vs.toArray w fun e w'=> ∃v,e= .returned v∧(∀c',Rep c' w' res v)∧RowKit.Below w.heap.size w w'):Q31 P f args [] res []:=by
 intro c w vs hm hb hR ha
 refine(h c w vs ha).mono fun e w' hq=> ?_
 obtain⟨v,he,hr,h1,h2,h3,h4,h5⟩:=hq
 have nor: ∀r x,c.R r=some x→False:=fun r x hx=>by rw[hR]at hx;simp at hx
 refine⟨v,c,he,⟨⟨fun r x hx=>(nor r x hx).elim,fun r s x y hx=>(nor r x hx).elim,fun b hbI=>⟨Nat.lt_of_lt_of_le (hm.imm b hbI).1 h4,fun r x hx=>(nor r x hx).elim⟩⟩,⟨rfl,fun b hbI=>⟨hbI,h5 b (hm.imm b hbI).1⟩,fun r x hx=>(nor r x hx).elim⟩,⟨h1,h2,h3,h4,fun b hb' _=>h5 b hb'⟩,fun b hbI=> .inl hbI,fun r x hx=>(nor r x hx).elim⟩,hR,hr c⟩
theorem repeat_of{P:Program}{f:FuncId}(H: ∀(s:ByteArray) (c:Nat) (w:World),c≤9223372036854775807→s.size*c≤140737488355328→Calls P f #[.string s, .int .i64 c] w fun e w'=>e= .returned (.string ⟨(Lib.repeatL s.data.toList c).toArray⟩)∧RowKit.Below w.heap.size w w')
   {s:List UInt8} {n:Int} (h0:0≤n) (h1:n≤9223372036854775807) (h2:s.length*n.toNat≤140737488355328):Q31 P f [.str s, .int .i64 n] [] (.str (Lib.repeatL s n.toNat)) []:=by
 refine Q31.of_below fun c w vs ha=> ?_
 match vs,ha with
 | [u,v],ha=>
   have hu:u= .string ⟨s.toArray⟩:=ha.1
   have hv:v= .int .i64 n:=ha.2.1
   subst hu;subst hv
   have hn:((n.toNat:Nat):Int)=n:=Int.toNat_of_nonneg h0
   have:=H ⟨s.toArray⟩ n.toNat w (by omega) (by simpa [ByteArray.size] using h2)
   rw[hn]at this
   exact this.mono fun e w' ⟨he,hb⟩=>⟨_,he,fun c'=>by simp [Rep,VRep,CRep],hb⟩
end Go.GD
