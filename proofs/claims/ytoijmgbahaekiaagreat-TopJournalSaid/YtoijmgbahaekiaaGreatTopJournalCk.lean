import Derived.Test.YtoijmgbahaekiaaGreatTopJournalMod
set_option linter.all false
namespace Go.GD
class Ck(p:Prop) where
 b:Bool
 ok:b=true->p
class TD{β:Type}(t:Tree β) where
 b:(β->Bool)->Bool
 ok:∀{W:β->Prop} {V:β->Bool},(∀z,V z=true->W z)->b V=true->t.w W
section
variable {α β:Type}
instance (priority:=low) ckNo (p:Prop):Ck p:=⟨false,λh=>by cases h⟩
instance tdLf (x:β):TD (.lf x):=⟨λV=>V x,λhv h=>hv _ h⟩
instance tdNx (f:Prop) (x:β) (hf:f):TD (.nx f x hf):=⟨λV=>V x,λhv h=>w_nx (hv _ h)⟩
instance tdBr (c:Bool) (t e:Tree β) [ht:TD t] [he:TD e]:TD (.br c t e):=⟨λV=>match c with|true=>ht.b V|false=>he.b V,λhv h=>by
 cases c
 ·exact w_br (λh=>by cases h) (λ_=>he.ok hv h)
 ·exact w_br (λ_=>ht.ok hv h) (λh=>by cases h)⟩
instance tdCn (c:Bool) (t:Tree β) [ht:TD t]:TD (.cn c t):=⟨λV=>match c with|true=>ht.b V|false=>false,λhv h=>by
 cases c
 ·cases h
 ·exact w_cn rfl (ht.ok hv h)⟩
instance tdFl (c:Bool) (t:Tree β) [ht:TD t]:TD (.fl c t):=⟨λV=>match c with|true=>false|false=>ht.b V,λhv h=>by
 cases c
 ·exact w_fl rfl (ht.ok hv h)
 ·cases h⟩
instance tdAn (p:Prop) (t:Tree β) [hp:Ck p] [ht:TD t]:TD (.an p t):=⟨λV=>match hp.b with|true=>ht.b V|false=>false,λhv h=>by
 split at h
 ·rename_i e;exact w_an (hp.ok e) (ht.ok hv h)
 ·cases h⟩
instance tdLv (v:α) (k:α->Tree β) [hk:∀x,TD (k x)]:TD (.lv v k):=⟨λV=>(hk v).b V,λhv h=>w_lv λy hy=>by rw[hy];exact(hk v).ok hv h⟩
def runB(B:α->(α⊕β->Bool)->Bool)(V:β->Bool):Nat->α->Bool
 |0,_=>false
 |n+1,y=>B y λz=>match z with|.inl y=>runB B V n y|.inr r=>V r
instance tdLp (d:Inhabited β) (n:Nat) (f:Prop) (x:α) (k:α->Tree (α⊕β)) (hf:f) [hk:∀y,TD (k y)]:TD (.lp d n f x k hf):=⟨λV=>runB (λy=>(hk y).b) V n x,fun{W V} hv h=>by
 show runW (λy V=>(k y).w V) W n x
 revert x
 induction n with
 |zero=>intro x h;cases h
 |succ n ih=>
  intro x h
  rw[Qk6]
  refine(hk x).ok (λz hz=>?_) h
  cases z with
  |inl y=>exact ih y hz
  |inr r=>exact hv _ hz⟩
end
theorem ck{p:Prop}(c:Ck p)(h:c.b=true):p:=c.ok h
@[reducible] def ckT {β:Type} {t:Tree β} (h:TD t):Ck t.p:=⟨h.b λ_=>true,λe=>h.ok (λ_ _=>trivial) e⟩
