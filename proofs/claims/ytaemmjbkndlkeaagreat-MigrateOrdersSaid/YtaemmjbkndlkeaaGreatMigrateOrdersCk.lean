import Derived.Test.YtaemmjbkndlkeaaGreatMigrateOrdersMod
set_option linter.all false
namespace Go.GD
class Ck(p:Prop) where
 b:Bool
 ok:b=true->p
class TD{β:Type}(t:Tree β) where
 b:(β->Bool)->Bool
 ok:∀{W:β->Prop} {V:β->Bool},(∀z,V z=true->W z)->b V=true->t.w W
section
variable {α β:Type}
instance (priority:=low) Jaj (p:Prop):Ck p:=⟨false,λh=>by cases h⟩
instance Jak (x:β):TD (.lf x):=⟨λV=>V x,λhv h=>hv _ h⟩
instance Jal (f:Prop) (x:β) (hf:f):TD (.nx f x hf):=⟨λV=>V x,λhv h=>ep (hv _ h)⟩
instance Jam (c:Bool) (t e:Tree β) [ht:TD t] [he:TD e]:TD (.br c t e):=⟨λV=>match c with|true=>ht.b V|false=>he.b V,λhv h=>by
 cases c
 ·exact ab (λh=>by cases h) (λ_=>he.ok hv h)
 ·exact ab (λ_=>ht.ok hv h) (λh=>by cases h)⟩
instance Jan (c:Bool) (t:Tree β) [ht:TD t]:TD (.cn c t):=⟨λV=>match c with|true=>ht.b V|false=>false,λhv h=>by
 cases c
 ·cases h
 ·exact aw rfl (ht.ok hv h)⟩
instance Jao (c:Bool) (t:Tree β) [ht:TD t]:TD (.fl c t):=⟨λV=>match c with|true=>false|false=>ht.b V,λhv h=>by
 cases c
 ·exact V3 rfl (ht.ok hv h)
 ·cases h⟩
instance Jap (p:Prop) (t:Tree β) [hp:Ck p] [ht:TD t]:TD (.an p t):=⟨λV=>match hp.b with|true=>ht.b V|false=>false,λhv h=>by
 split at h
 ·rename_i e;exact c8 (hp.ok e) (ht.ok hv h)
 ·cases h⟩
instance Jaq (v:α) (k:α->Tree β) [hk:∀x,TD (k x)]:TD (.lv v k):=⟨λV=>(hk v).b V,λhv h=>aq λy hy=>by rw[hy];exact(hk v).ok hv h⟩
def MY(B:α->(α⊕β->Bool)->Bool)(V:β->Bool):Nat->α->Bool
 |0,_=>false
 |n+1,y=>B y λz=>match z with|.inl y=>MY B V n y|.inr r=>V r
instance Jar (d:Inhabited β) (n:Nat) (f:Prop) (x:α) (k:α->Tree (α⊕β)) (hf:f) [hk:∀y,TD (k y)]:TD (.lp d n f x k hf):=⟨λV=>MY (λy=>(hk y).b) V n x,fun{W V} hv h=>by
 show mm (λy V=>(k y).w V) W n x
 revert x
 induction n with
 |zero=>intro x h;cases h
 |succ n ih=>
  intro x h
  rw[MZ]
  refine(hk x).ok (λz hz=>?_) h
  cases z with
  |inl y=>exact ih y hz
  |inr r=>exact hv _ hz⟩
end
theorem ck{p:Prop}(c:Ck p)(h:c.b=true):p:=c.ok h
@[reducible] def tP {β:Type} {t:Tree β} (h:TD t):Ck t.p:=⟨h.b λ_=>true,λe=>h.ok (λ_ _=>trivial) e⟩
