import Derived.Shelf.Strings.Builder1
import Derived.Test.YtmalmklaonainaaGreatReplayTellsFd
import Derived.Test.YtmalmklaonainaaGreatReplayTellsShelf
import Derived.Test.YtmalmklaonainaaGreatReplayTellsBase
open Nat renaming le_trans->bH
set_option linter.all false
namespace Go.GD
open Go
end Go.GD
namespace Go.GD
open Go Go.Proofs Go.Shelf Go.RowKit
variable {P:Program} {ρ:Ren}
end Go.GD
namespace Go.GD
open Go
theorem Q4b.of_below{P:Program}{f:FuncId}{args:List D}{res:D}(h: ∀(c:Ctx) (w:World) (vs:List Value),Q8p c w args vs->Calls P f vs.toArray w λe w'=> ∃v,e= .returned v/\(∀c',Rep c' w' res v)/\RowKit.Below w.heap.size w w'):Q4b P f args [] res []:=by
 intro c w vs hm hb hR ha
 refine(h c w vs ha).mono λe w' hq=> ?_
 obtain⟨v,he,hr,h1,h2,h3,h4,h5⟩:=hq
 have nor: ∀r x,c.R r=some x->False:=λr x hx=>by rw[hR]at hx;simp at hx
 refine⟨v,c,he,⟨⟨λr x hx=>(nor r x hx).elim,λr s x y hx=>(nor r x hx).elim,λb hbI=>⟨Nat.lt_of_lt_of_le (hm.imm b hbI).1 h4,λr x hx=>(nor r x hx).elim⟩,bH hm.top h4⟩,⟨rfl,Nat.le_refl _,λb hbI=>⟨hbI,h5 b (hm.imm b hbI).1⟩,λr x hx=>(nor r x hx).elim⟩,⟨h1,h2,h3,h4,λb hb' _=>h5 b hb'⟩,λb hbI=> .inl hbI,λr x hx=>(nor r x hx).elim⟩,hR,hr c⟩
theorem vc{P:Program}{f:FuncId}(H: ∀(s:ByteArray) (c:Nat) (w:World),c<=9223372036854775807->s.size*c<=140737488355328->Calls P f #[.string s, .int .i64 c] w λe w'=>e= .returned (.string ⟨(Lib.repeatL s.data.toList c).toArray⟩)/\RowKit.Below w.heap.size w w')
   {s:List UInt8} {n:Int} (h0:0<=n) (h1:n<=9223372036854775807) (h2:s.length*n.toNat<=140737488355328):Q4b P f [.str s, .int .i64 n] [] (.str (Lib.repeatL s n.toNat)) []:=by
 refine Q4b.of_below λc w vs ha=> ?_
 match vs,ha with
 | [u,v],ha=>
   have hu:u= .string ⟨s.toArray⟩:=ha.1
   have hv:v= .int .i64 n:=ha.2.1
   subst hu;subst hv
   have hn:((n.toNat:Nat):Int)=n:=Int.toNat_of_nonneg h0
   have:=H ⟨s.toArray⟩ n.toNat w (by omega) (by simpa [ByteArray.size] using h2)
   rw[hn]at this
   exact this.mono λe w' ⟨he,hb⟩=>⟨_,he,λc'=>by simp [Rep,VRep,CRep],hb⟩
theorem yG{P:Program}{ρ:Shelf.Ren}(L:Proofs.Lays8.n4 P ρ){T:Tab}(hT:Q56 P T){tk:TK}{sz by':Nat}{cs:List CTy}{zz:List D}{q:Bool}{k:RK}(ht:T.get (ρ.t 25)=some ⟨tk,sz,by',cs,some zz,q⟩)(hzl:zz.length=sz)(h0:0<sz)(hb0:0<by'){n:Int}(hn:0<=n)(hbig:n.toNat*by'<=140737488355328):
    Q4b P (ρ.f 4) [.nils, .int .i64 n] [] (.all 0) [⟨false,ρ.t 25,sz, .recs k []⟩]:=by
  intro c w vs hm hb hR ha
  obtain⟨i,z,hi,hz,hov,hsz,hby,_,_⟩:=Qho hT ht
  subst hsz;subst hby
  have hzs:z.cells.size=i.size:=by
    rw[<-hzl,(Qe hov c w).length];simp
  match vs,ha with
  | [u, v],ha=>
    have hu:u= .slice none 0 0:=ha.1
    have hv:v= .int .i64 n:=ha.2.1
    subst hu;subst hv
    obtain⟨m,rfl⟩: ∃m:Nat,n=m:=⟨n.toNat,by omega⟩
    rw[Int.toNat_natCast]at hbig
    have hk:c.R 0=none:=by rw[hR];rfl
    have hm63:m<=140737488355328:=bH (Nat.le_mul_of_pos_right _ hb0) hbig
    have rows: ∀(x:Row) r,(if r=0 then some x else c.R r)=[x][r]? :=λx r=>by
      by_cases e:r=0
      . subst e;simp
      . rw[if_neg e,hR];simp [e]
    by_cases e:m=0
    . subst e
      refine(Proofs.Any8.slices_Grow_room L none 0 0 0 w (by omega) (by omega) (by omega) (by omega)).mono λe w' hq=> ?_
      obtain⟨he,rfl⟩:=hq
      refine⟨_,c.addV 0 ⟨false,ρ.t 25,i.size, .recs k []⟩,he,⟨Z2e hm hk rfl rfl h0,Qn4 hk _,Fr.refl _ _,λb hb=> .inl hb,λr row' h1 h2=> ?_⟩,rows _,⟨⟨false,ρ.t 25,i.size, .recs k []⟩,by simp [Ctx.addV],rfl, .inl ⟨.inl rfl,none,rfl,Qs5⟩⟩⟩
      have hne:r≠0:=λe=>h2 (.inl e)
      exact .inl ⟨⟨row',by simpa [Ctx.addV,hne] using h1⟩,λe=>h2 (.inr e),rfl⟩
    . refine(Proofs.Any8.slices_Grow_grow L i z hi hz h0 none 0 0 m [] w (by omega) (by omega) (by simpa using hbig) (by omega) (by simp) (λ_=>rfl) (λ_ h=>by cases h)).mono λe' w' hq=> ?_
      obtain⟨he,rfl⟩:=hq
      have hge:=grownCap_ge w (0+m) 0 (ρ.t 25)
      have hcm:grownCap w (0+m) 0 (ρ.t 25)<=maxLen:=grownCap_le_maxLen w _ _ _ (by unfold maxLen;omega)
      generalize grownCap w (0+m) 0 (ρ.t 25)=gc at he hge hcm⊢
      have harr:([].toArray++Builtin.zeroCells z.cells (0+m-0)++Builtin.zeroCells z.cells (gc-(0+m))).size=gc*i.size:=by
        have e1:([].toArray++Builtin.zeroCells z.cells (0+m-0)++Builtin.zeroCells z.cells (gc-(0+m))).size=m*i.size+(gc-(0+m))*i.size:=by
          simp [size_zeroCells,hzs]
        rw[e1,<-Nat.add_mul]
        congr 1;omega
      have hal:=Mem.alloc (w:=w.drew) (Qlp hm) hk ⟨false,ρ.t 25,i.size, .recs k []⟩ ([].toArray++Builtin.zeroCells z.cells (0+m-0)++Builtin.zeroCells z.cells (gc-(0+m))) h0 (by
        simp only[Bool.false_eq_true,if_false]
        exact Q2f.2 trivial)
      have hrep:=Zcc (c:=c) (w:=w.drew) (k:=0) (e:=ρ.t 25) (sz:=i.size) (cap:=gc) (es:= .recs k []) (arr:=[].toArray++Builtin.zeroCells z.cells (0+m-0)++Builtin.zeroCells z.cells (gc-(0+m))) (Nat.zero_le _) hcm harr.symm
      refine⟨_,c.add 0 ⟨false,ρ.t 25,i.size, .recs k []⟩ w.heap.size,he,⟨hal,(Qix _ w).trans (Q4.alloc (w:=w.drew) (Qlp hm) hk _ _),?_,λb hb=> .inl hb,λr row' h1 h2=> ?_⟩,rows _,hrep⟩
      . exact Fr.trans (w':=w.drew) ⟨rfl,rfl,rfl,Nat.le_refl _,λ_ _ _=>rfl⟩ (Fr.alloc _ w.drew _)
      . by_cases e1:r=0
        . subst e1
          right
          simp [Ctx.add]
        . exact .inl ⟨⟨row',by simpa [Ctx.add,e1] using h1⟩,λe=>h2 (by simpa [Ctx.add,e1] using e),by simp [Ctx.add,e1]⟩
