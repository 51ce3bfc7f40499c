import Derived.Test.YtoijmgbahaekiaaGreatTopJournalFm
import Derived.Lib.Strings
open Bool renaming eq_iff_iff->fS,false_eq_true->aN,and_true->gB
open Option renaming map_eq_some_iff->fL,getD_some->aG
open Nat renaming add_assoc->fO,succ_mul->aW,le_refl->aO,sub_zero->fU,sub_self->fV,zero_add->aX,mul_le_mul_right->aV,add_zero->bH,zero_mul->fZ
open List renaming length_nil->fB,map_cons->eJ,length_cons->cZ,getElem?_cons_zero->fW,getElem?_set_self->fX,getElem?_set_ne->fY,getD->aK,getElem?_toArray->aY,getElem?_eq_getElem->cI,getElem_mem->eK,ext_getElem?->cN,append_assoc->cP,getElem?_append_right->bB,getElem?_append_left->aZ,getElem?_eq_none->aM,cons_append->cF,replicate->gA
open Array renaming toArray_toList->bU,range->gC
set_option linter.all false
namespace Go.GD
open Go
theorem Z53(a b:List UInt8):(ByteArray.mk a.toArray)++(ByteArray.mk b.toArray)=ByteArray.mk (a++b).toArray:=by
 rw[ByteArray.ext_iff]
 simp
theorem Rep.int{c:Ctx}{w:World}{k:IntKind}{n:Int}{v:Value}:Rep c w (.int k n) v↔v=.int k n:=Iff.rfl
theorem Rep.bool{c:Ctx}{w:World}{b:Bool}{v:Value}:Rep c w (.bool b) v↔v=.bool b:=Iff.rfl
theorem Rep.str{c:Ctx}{w:World}{s:List UInt8}{v:Value}:Rep c w (.str s) v↔v=.string ⟨s.toArray⟩:=Iff.rfl
theorem Qmo{P:Program}{op:BinOp}{t:TypeId}{x y:Operand}{k k':IntKind}{a b:Int}(w:World):(eqGuard op t x y (.int k a) (.int k' b)).run P w=.ok () w:=by
 cases op<;>rfl
theorem Z6r{P:Program}{op:BinOp}{t:TypeId}{x y:Operand}{a b:ByteArray}(w:World):(eqGuard op t x y (.string a) (.string b)).run P w=.ok () w:=by
 cases op<;>rfl
theorem Qrk{P:Program}{op:BinOp}{t:TypeId}{x y:Operand}{a b:Bool}(w:World):(eqGuard op t x y (.bool a) (.bool b)).run P w=.ok () w:=by
 cases op<;>rfl
theorem vV{P:Program}{op:BinOp}{t:TypeId}{k:IntKind}{a b:Int}{K:D->Prop}(hop:op≠.shl/\op≠.shr)(h:Z9 op k a b K):
 ∃d,K d/\∀w,∃u,(binOp op t (.int k a) (.int k b)).run P w=.ok u w/\∀c,Rep c w d u:=by
 cases op<;>simp only[Z9,Q02,decide_eq_true_eq]at h
 case add=>exact⟨_,h,λw=>⟨_,by simp only[binOp,ne_eq,not_true_eq_false,if_false,Op.intArith,Sem.run_pure];try rfl,λc=>rfl⟩⟩
 case sub=>exact⟨_,h,λw=>⟨_,by simp only[binOp,ne_eq,not_true_eq_false,if_false,Op.intArith,Sem.run_pure];try rfl,λc=>rfl⟩⟩
 case mul=>exact⟨_,h,λw=>⟨_,by simp only[binOp,ne_eq,not_true_eq_false,if_false,Op.intArith,Sem.run_pure];try rfl,λc=>rfl⟩⟩
 case quo=>exact⟨_,h.2,λw=>⟨_,by simp only[binOp,ne_eq,not_true_eq_false,if_false,Op.intDiv,h.1,Sem.run_pure];try rfl,λc=>rfl⟩⟩
 case rem=>exact⟨_,h.2,λw=>⟨_,by simp only[binOp,ne_eq,not_true_eq_false,if_false,Op.intDiv,h.1,Sem.run_pure];try rfl,λc=>rfl⟩⟩
 case and=>exact⟨_,h,λw=>⟨_,by simp only[binOp,ne_eq,not_true_eq_false,if_false,Op.intBits,Sem.run_pure];try rfl,λc=>rfl⟩⟩
 case or=>exact⟨_,h,λw=>⟨_,by simp only[binOp,ne_eq,not_true_eq_false,if_false,Op.intBits,Sem.run_pure];try rfl,λc=>rfl⟩⟩
 case xor=>exact⟨_,h,λw=>⟨_,by simp only[binOp,ne_eq,not_true_eq_false,if_false,Op.intBits,Sem.run_pure];try rfl,λc=>rfl⟩⟩
 case andNot=>exact⟨_,h,λw=>⟨_,by simp only[binOp,ne_eq,not_true_eq_false,if_false,Op.intBits,Sem.run_pure];try rfl,λc=>rfl⟩⟩
 case eql=>exact⟨_,h,λw=>⟨_,by simp only[binOp,ne_eq,not_true_eq_false,if_false,Op.intCmp,Sem.run_pure];try rfl,λc=>rfl⟩⟩
 case neq=>exact⟨_,h,λw=>⟨_,by simp only[binOp,ne_eq,not_true_eq_false,if_false,Op.intCmp,Sem.run_pure];try rfl,λc=>rfl⟩⟩
 case lss=>exact⟨_,h,λw=>⟨_,by simp only[binOp,ne_eq,not_true_eq_false,if_false,Op.intCmp,Sem.run_pure];try rfl,λc=>rfl⟩⟩
 case leq=>exact⟨_,h,λw=>⟨_,by simp only[binOp,ne_eq,not_true_eq_false,if_false,Op.intCmp,Sem.run_pure];try rfl,λc=>rfl⟩⟩
 case gtr=>exact⟨_,h,λw=>⟨_,by simp only[binOp,ne_eq,not_true_eq_false,if_false,Op.intCmp,Sem.run_pure];try rfl,λc=>rfl⟩⟩
 case geq=>exact⟨_,h,λw=>⟨_,by simp only[binOp,ne_eq,not_true_eq_false,if_false,Op.intCmp,Sem.run_pure];try rfl,λc=>rfl⟩⟩
theorem Z42{P:Program}{t:TypeId}{k k':IntKind}{a b:Int}(hb:0<=b)(w:World):
 (binOp .shl t (.int k a) (.int k' b)).run P w=.ok (.int k (ishl k a b)) w/\(binOp .shr t (.int k a) (.int k' b)).run P w=.ok (.int k (ishr k a b)) w:=by
 have:¬b<0:=by omega
 constructor<;>(simp only[binOp];simp[Op.shift,this,ishl,ishr])
theorem qW{P:Program}{op:BinOp}{t:TypeId}{a b:List UInt8}{K:D->Prop}
 (h:match op with
  |.add=>cand (decide (a.length+b.length<=maxLen)) (K (.str (a++b)))
  |.eql=>K (.bool (decide (a=b)))
  |.neq=>K (.bool (!decide (a=b)))
  |.lss=>K (.bool (Go.Op.bytesLess a b))
  |.leq=>K (.bool (Go.Op.bytesLess a b||decide (a=b)))
  |.gtr=>K (.bool (!(Go.Op.bytesLess a b||decide (a=b))))
  |.geq=>K (.bool (!(Go.Op.bytesLess a b)))
  |_=>False):
 ∃d,K d/\∀w,∃u,(binOp op t (.string ⟨a.toArray⟩) (.string ⟨b.toArray⟩)).run P w=.ok u w/\∀c,Rep c w d u:=by
 cases op<;>simp only[Q02,decide_eq_true_eq]at h
 case add=>
  refine⟨_,h.2,λw=>⟨_,?_,λc=>rfl⟩⟩
  have hl:¬(((a.toArray.size+b.toArray.size:Nat):Int)>IntKind.i64.max):=by
   have:=h.1
   unfold maxLen at this
   simp only[List.size_toArray,IntKind.max,IntKind.signed,IntKind.bits,if_true]
   omega
  simp only[binOp]
  simp only[Op.stringOp,ByteArray.size,hl,if_false,Sem.run_pure,Z53]
 case eql=>
  refine⟨_,h,λw=>⟨_,?_,λc=>rfl⟩⟩
  simp only[binOp]
  simp only[Op.stringOp,Sem.run_pure,ByteArray.toList_mk,show(a==b)=decide (a=b) from by rw[fS];simp]
  try rfl
 case neq=>
  refine⟨_,h,λw=>⟨_,?_,λc=>rfl⟩⟩
  simp only[binOp]
  simp only[Op.stringOp,Sem.run_pure,ByteArray.toList_mk,show(a==b)=decide (a=b) from by rw[fS];simp]
  try rfl
 case lss=>
  refine⟨_,h,λw=>⟨_,?_,λc=>rfl⟩⟩
  simp only[binOp]
  simp only[Op.stringOp,Sem.run_pure,ByteArray.toList_mk,show(a==b)=decide (a=b) from by rw[fS];simp]
  try rfl
 case leq=>
  refine⟨_,h,λw=>⟨_,?_,λc=>rfl⟩⟩
  simp only[binOp]
  simp only[Op.stringOp,Sem.run_pure,ByteArray.toList_mk,show(a==b)=decide (a=b) from by rw[fS];simp]
  try rfl
 case gtr=>
  refine⟨_,h,λw=>⟨_,?_,λc=>rfl⟩⟩
  simp only[binOp]
  simp only[Op.stringOp,Sem.run_pure,ByteArray.toList_mk,show(a==b)=decide (a=b) from by rw[fS];simp]
  try rfl
 case geq=>
  refine⟨_,h,λw=>⟨_,?_,λc=>rfl⟩⟩
  simp only[binOp]
  simp only[Op.stringOp,Sem.run_pure,ByteArray.toList_mk,show(a==b)=decide (a=b) from by rw[fS];simp]
  try rfl
def Yld(P:Program)(x:Sem Value)(w:World)(c:Ctx)(d:D):Prop:=∃u,x.run P w=.ok u w/\Rep c w d u
theorem Q1q{P:Program}{T:Tab}(hT:Q34 P T){t:TypeId}{k:TK}{a b:Nat}{cs:List CTy}{z:Option (List D)}{e:Bool}(h:T.get t=some ⟨k,a,b,cs,z,e⟩):
 match k with
 |.int j=>P.underlying t=some (.int j)
 |.bool=>P.underlying t=some .bool
 |.string=>P.underlying t=some .string
 |.slice u n=>P.underlying t=some (.slice u)/\P.cellsOf u=n
 |.struct fs=>∃gs,P.underlying t=some (.struct gs)/\fs=gs.toList.map λf=>(f.offset,f.type,P.cellsOf f.type)
 |.array m u n=>P.underlying t=some (.array m u)/\P.cellsOf u=n
 |.other=>True:=by
 obtain⟨i,hi,hs,hb,hl,hk,_⟩:=Q7k (hT.get h)
 simp only at hk
 unfold Qre at hk
 split at hk<;>(subst hk;simp_all)
theorem xW{P:Program}{T:Tab}(hT:Q34 P T){s d:TypeId}{x:D}{K:D->Prop}(h:Qzc T s d x K):
 ∃val,K val/\∀c w v,Rep c w x v->Yld P (convert s d v) w c val:=by
 unfold Qzc at h
 split at h
 ·rename_i k1 _ _ _ _ _ k2 _ _ _ _ _ hs hd
  have h1:=Q1q hT hs
  have h2:=Q1q hT hd
  simp only at h1 h2
  cases x<;>simp only at h
  exact⟨_,h,λc w v hv=>⟨_,by rw[Rep.int.1 hv];simp only[convert,Sem.run_bind,run_underlying h1,run_underlying h2,Result.andThen_ok,Conv.intToInt,Sem.run_pure],rfl⟩⟩
 ·rename_i hs hd
  have h1:=Q1q hT hs
  have h2:=Q1q hT hd
  simp only at h1 h2
  cases x<;>simp only at h
  exact⟨_,h,λc w v hv=>⟨_,by rw[Rep.str.1 hv];simp only[convert,Sem.run_bind,run_underlying h1,run_underlying h2,Result.andThen_ok,Sem.run_pure],rfl⟩⟩
 ·exact h.elim
theorem Qrj{P:Program}{T:Tab}(hT:Q34 P T){s:TypeId}{f o:Nat}{q:TypeId×Nat}(h:Qor T s f=some (o,q)):
 ∃fs fd,P.underlying s=some (.struct fs)/\fs[f]?=some fd/\fd.offset=o/\fd.type=q.1/\P.cellsOf fd.type=q.2:=by
 unfold Qor at h
 split at h
 ·rename_i fs _ _ _ _ _ ht
  obtain⟨i,hi,hs,hb,hl,hk,_⟩:=Q7k (hT.get ht)
  simp only at hk
  unfold Qre at hk
  split at hk<;>try(cases hk;done)
  rename_i gs hd
  simp only[TK.struct.injEq]at hk
  subst hk
  simp only[List.getElem?_map,fL,Prod.mk.injEq,Array.getElem?_toList]at h
  obtain⟨fd,h1,h2,h3⟩:=h
  exact⟨gs,fd,hd,h1,h2,by rw[<-h3],by rw[<-h3]⟩
 ·cases h
theorem Z3i{P:Program}{t:TypeId}(h:0<P.cellsOf t):∃i,P.info? t=some i:=by
 unfold Program.cellsOf at h
 cases hi:P.info? t with
 |none=>simp[hi]at h
 |some i=>exact⟨i,rfl⟩
theorem Q88{P:Program}{t:TypeId}(h:0<P.cellsOf t)(w:World):(sizeOf t).run P w=.ok (P.cellsOf t) w:=by
 obtain⟨i,hi⟩:=Z3i h
 exact run_sizeOf w hi
theorem Quv{P:Program}{s:TypeId}{fs:Array Field}{f:Nat}{fd:Field}(hs:P.underlying s=some (.struct fs))(hf:fs[f]?=some fd)(h0:0<P.cellsOf fd.type)(b o:Nat)(w:World):
 (Instr.fieldAt s (.pointer (some ⟨b,o,none⟩)) f).run P w=.ok (.pointer (some ⟨b,o+fd.offset,none⟩)) w:=by
 have h1:¬P.cellsOf fd.type=0:=by omega
 simp only[Instr.fieldAt,Sem.run_bind,run_underlying hs,Result.andThen_ok,hf,Instr.sureAddr,Sem.run_pure,fieldPlace,Q88 h0,Sem.run_ite,h1,if_false,Qdd]
theorem Zbe{P:Program}{T:Tab}(hT:Q34 P T){t:TypeId}{x:D}{isC:Bool}{n:Int}{k:IntKind}{R:Rows}{K:D->Rows->Prop}(h:Qon T t x isC n R K):
 ∃val,K val R/\∀c w v,Mem c w->Q4w c R->Rep c w x v->Yld P (Instr.indexAt t v (.int k n)) w c val:=by
 unfold Qon at h
 split at h
 ·rename_i e esz _ _ _ _ _ ht
  have hk:=Q1q hT ht
  simp only at hk
  obtain⟨hu,hsz⟩:=hk
  have slc:∀(b o len cap:Nat) (w:World),0<esz->0<=n->n<len->(Instr.indexAt t (.slice (some ⟨b,o,none⟩) len cap) (.int k n)).run P w=.ok (.pointer (some ⟨b,o+n.toNat*esz,none⟩)) w:=by
   intro b o len cap w h0 h1 h2
   simp only[Instr.indexAt,asIntOf,Sem.run_bind,Sem.run_pure,Result.andThen_ok,run_underlying hu,Sem.run_ite,h1,h2,and_self,if_true,Q88 (hsz▸h0),hsz,Qdd]
  cases x<;>simp only[Q02,aE,decide_eq_true_eq,<-Els.len_l]at h
  case sl sz es fr=>
   obtain⟨⟨⟨h1,h0⟩,h2,h3⟩,h⟩:=h
   have h1:=bE h1
   have h0:0<esz:=lE h0
   subst h1
   refine⟨_,h,λc w v hm hA hv=>?_⟩
   obtain⟨a,cap,hv,hc,hes⟩:=hv
   rcases hes with hes|⟨b,off,arr,ty,fz,ha,hI,hf,hh,hE⟩
   ·rw[hes]at h3;simp at h3;omega
   ·subst ha;subst hv
    refine⟨_,slc b off _ _ w h0 h2 h3,b,off,arr,ty,fz,by simp,hI,by omega,hh,hE⟩
  case all r=>
   split at h
   ·rename_i box ty sz es hR
    obtain⟨⟨⟨h1,h0⟩,h2,h3⟩,h⟩:=h
    have h1:=bE h1
    have h0:0<esz:=lE h0
    subst h1
    refine⟨_,h,λc w v hm hA hv=>?_⟩
    obtain⟨row,g1,g2,hv⟩:=hv
    have:=hA r row _ g1 hR
    subst this
    rcases hv with⟨hV,a,hv,_⟩|⟨hV,cap,arr,hv,g3,g4,g5,g6⟩
    ·have:=(hm.virt g1 hV).2.1
     simp only at this
     rw[this]at h3
     simp at h3;omega
    ·subst hv
     exact⟨_,slc _ 0 _ _ w h0 h2 h3,_,g1,hV,by simp only;omega,by simp⟩
   ·exact h.elim
  case own r o m=>
   split at h
   ·rename_i box ty sz es hR
    obtain⟨⟨⟨h1,h0⟩,h2,h3⟩,h⟩:=h
    have h1:=bE h1
    have h0:0<esz:=lE h0
    subst h1
    refine⟨_,h,λc w v hm hA hv=>?_⟩
    obtain⟨row,g1,g2,g5,hv⟩:=hv
    have:=hA r row _ g1 hR
    subst this
    simp only at*
    rcases hv with⟨g7,_⟩|⟨hV,cap,arr,g3,g4,g6,hv,g7⟩
    ·omega
    ·subst hv
     exact⟨_,slc _ _ _ _ w h0 h2 h3,_,g1,hV,by simp only;omega,by simp[Nat.add_mul]⟩
   ·exact h.elim
 ·rename_i len e esz _ _ _ _ _ ht
  have hk:=Q1q hT ht
  simp only at hk
  obtain⟨hu,hsz⟩:=hk
  simp only[Q02,aE,decide_eq_true_eq]at h
  obtain⟨⟨h0,h2,h3⟩,h⟩:=h
  have h0:0<esz:=lE h0
  have arrAt:∀(b o:Nat) (w:World),(Instr.indexAt t (.pointer (some ⟨b,o,none⟩)) (.int k n)).run P w=.ok (.pointer (some ⟨b,o+n.toNat*esz,none⟩)) w:=by
   intro b o w
   simp only[Instr.indexAt,asIntOf,Sem.run_bind,Sem.run_pure,Result.andThen_ok,run_underlying hu,Instr.sureAddr,Sem.run_ite,h2,h3,and_self,if_true,Q88 (hsz▸h0),hsz,Qdd]
  cases x<;>simp only at h
  case ptr r i off=>
   have plainly:K (.ptr r i (off+n.toNat*esz)) R->∃val,K val R/\∀c w v,Mem c w->Q4w c R->Rep c w (.ptr r i off) v->Yld P (Instr.indexAt t v (.int k n)) w c val:=λh=>
    ⟨_,h,λc w v hm hA hv=>by
     obtain⟨row,g1,gV,g2,hv⟩:=hv
     subst hv
     exact⟨_,arrAt _ _ w,row,g1,gV,g2,by simp[fO]⟩⟩
   have arr1:∀kk,Nat.beq esz 1=true->K (.pa r i off len kk n.toNat) R->∃val,K val R/\∀c w v,Mem c w->Q4w c R->Rep c w (.ptr r i off) v->Yld P (Instr.indexAt t v (.int k n)) w c val:=λkk h1 h=>
    ⟨_,h,λc w v hm hA hv=>by
     obtain⟨row,g1,gV,g2,hv⟩:=hv
     have h1:=bE h1
     subst hv
     exact⟨_,arrAt _ _ w,by omega,row,g1,gV,g2,by simp[fO,h1]⟩⟩
   cases isC with
   |true=>exact plainly h
   |false=>
    simp only at h
    split at h
    ·exact arr1 _ h.1 h.2
    ·exact arr1 _ h.1 h.2
    ·exact plainly h
  case iptr sz es i off=>
   refine⟨_,h,λc w v hm hA hv=>?_⟩
   obtain⟨b,o,arr,ty,fz,hv,hI,hi,hh,hE⟩:=hv
   subst hv
   exact⟨_,arrAt _ _ w,b,o,arr,ty,fz,by simp[fO],hI,hi,hh,hE⟩
 ·exact h.elim
theorem yN{ev:Operand->D}{x:Option Operand}{n l:Int}{c:Ctx}{w:World}{ρ:Operand->Value}(h:bnd x ev n=some l)(hr:∀y,x=some y->Rep c w (ev y) (ρ y)):
 (x=none/\l=n)\/∃y k,x=some y/\ρ y=.int k l:=by
 cases x with
 |none=>simp[bnd]at h;exact .inl ⟨rfl,h.symm⟩
 |some y=>
  simp only[bnd]at h
  cases hd:ev y<;>simp only[hd]at h<;>try(cases h;done)
  have:=hr y rfl
  rw[hd]at this
  simp only[Option.some.injEq]at h
  subst h
  exact .inr ⟨y,_,rfl,Rep.int.1 this⟩
theorem Z07{P:Program}{b:Bool}{len cap:Nat}{lo hi:Option Operand}{ev:Operand->D}{l h:Int}{c:Ctx}{w:World}{ρ:Operand->Value}
 (hl:bnd lo ev 0=some l) (hh:bnd hi ev len=some h) (hrl:∀y,lo=some y->Rep c w (ev y) (ρ y)) (hrh:∀y,hi=some y->Rep c w (ev y) (ρ y))
 (h0:0<=l) (h1:l<=h) (h2:h<=cap):(Instr.sliceBounds b len cap (lo.map ρ) (hi.map ρ) none).run P w=.ok (l.toNat,h.toNat,cap) w:=by
 have bound:∀(k:IntKind) (i:Int) (y:Nat) (code:BoundsCode),0<=i->i<=y->(Instr.sliceBound (.int k i) y code).run P w=.ok i.toNat w:=by
  intro k i y code a1 a2
  simp[Instr.sliceBound,asIntOf,a1,a2]
 rcases yN hh hrh with⟨rfl,rfl⟩|⟨y,k,rfl,hy⟩<;>rcases yN hl hrl with⟨rfl,rfl⟩|⟨z,k',rfl,hz⟩
 ·simp[Instr.sliceBounds]
 ·simp[Instr.sliceBounds,hz,bound k' l len _ h0 h1]
 ·simp[Instr.sliceBounds,hy,bound k h cap _ (by omega) h2]
 ·simp[Instr.sliceBounds,hy,hz,bound k h cap _ (by omega) h2,bound k' l h.toNat _ h0 (by omega)]
theorem Qba{I:Blocks}{w:World}:∀{es:List (List D)} {arr:Array Value} {off sz l:Nat},Q15 I w es arr off sz->Q15 I w (es.drop l) arr (off+l*sz) sz
 |es,arr,off,sz,0,h=>by simpa using h
 |[],arr,off,sz,l+1,h=>by simp[Q25,Q1u]
 |e::es,arr,off,sz,l+1,h=>by
  simp only[Q25,Q1u]at h
  have:=Qba (l:=l) h.2.2
  rw[show off+(l+1)*sz=off+sz+l*sz by rw[aW];omega]
  simpa using this
theorem Qbg{I:Blocks}{w:World}:∀{es:List (List D)} {arr:Array Value} {off sz n:Nat},Q15 I w es arr off sz->Q15 I w (es.take n) arr off sz
 |es,arr,off,sz,0,h=>by simp[Q25,Q1u]
 |[],arr,off,sz,n+1,h=>by simp[Q25,Q1u]
 |e::es,arr,off,sz,n+1,h=>by
  simp only[Q25,Q1u]at h
  simp only[List.take_succ_cons,Q25,Q1u]
  exact⟨h.1,h.2.1,Qbg h.2.2⟩
theorem Z1z(s:List UInt8)(l h:Nat):(ByteArray.mk s.toArray).extract l h=⟨((s.drop l).take (h-l)).toArray⟩:=by
 rw[Lib.extract_eq]
theorem Z3l:∀{e:List D} {off n:Nat},(ints e off n).length=n
 |_,_,0=>rfl
 |e,off,n+1=>by simp[ints,Z3l]
theorem Z0z{I:Blocks}{w:World}{k:IntKind}{e:List D}{arr:Array Value}{o:Nat}(h:Q8i I w e arr o):∀{n off:Nat},off+n<=e.length->Qia k e off n=true->Q15 I w (Els.ints k (ints e off n)).l arr (o+off) 1
 |0,_,_,_=>Q25.2 trivial
 |n+1,off,hl,ha=>by
  simp only[Qia,aE]at ha
  obtain⟨v,hv,hp⟩:=Qkj h (j:=off) (by omega)
  rw[D.isInt_eq ha.1]at hp
  have r:=Z0z h (n:=n) (off:=off+1) (by omega) ha.2
  rw[show o+(off+1)=o+off+1 by omega]at r
  exact Q1u.2 ⟨rfl,Q5.2 ⟨⟨v,hv,hp⟩,Q6o.2 trivial⟩,r⟩
theorem qG{P:Program}{T:Tab}(hT:Q34 P T){t:TypeId}{x:D}{lo hi:Option Operand}{ev:Operand->D}{R:Rows}{K:D->Rows->Prop}(h:Qpc T t x lo hi ev R K):
 ∃ val,K val R/\∀c w v (ρ:Operand->Value),Mem c w->Q4w c R->Rep c w x v->(∀y,lo=some y->Rep c w (ev y) (ρ y))->(∀y,hi=some y->Rep c w (ev y) (ρ y))->
  Yld P (Instr.sliceAt t v (lo.map ρ) (hi.map ρ) none) w c val:=by
 unfold Qpc at h
 split at h
 ·rename_i ht
  have hu:=Q1q hT ht
  simp only at hu
  cases x<;>simp only at h
  case str s=>
   split at h
   ·rename_i l u hl hh
    try rw[<-Els.len_l]at hh
    simp only[Q02,decide_eq_true_eq]at h
    obtain⟨⟨h0,h1,h2⟩,h⟩:=h
    refine⟨_,h,λc w v ρ hm hA hv hrl hrh=>?_⟩
    rw[Rep.str.1 hv]
    refine⟨_,?_,rfl⟩
    have hb:=Z07 (P:=P) (b:=false) (len:=s.length) (cap:=s.length) hl hh hrl hrh h0 h1 h2
    have hsz:(ByteArray.mk s.toArray).size=s.length:=by simp[ByteArray.size]
    simp only[Instr.sliceAt,Sem.run_bind,run_underlying hu,Result.andThen_ok,Instr.slice,Option.isSome_none,aN,if_false,hsz,hb,Sem.run_pure,Z1z]
   ·exact h.elim
 ·rename_i e esz _ _ _ _ _ ht
  have hk:=Q1q hT ht
  simp only at hk
  obtain⟨hu,hsz⟩:=hk
  have sl:∀(a:Option Addr) (len cap:Nat) (l u:Int) (c:Ctx) (w:World) (ρ:Operand->Value),0<esz->bnd lo ev 0=some l->bnd hi ev len=some u->(∀y,lo=some y->Rep c w (ev y) (ρ y))->(∀y,hi=some y->Rep c w (ev y) (ρ y))->
   0<=l->l<=u->u<=cap->(Instr.sliceAt t (.slice a len cap) (lo.map ρ) (hi.map ρ) none).run P w=.ok (.slice (if cap=l.toNat then a else a.map (·.add (l.toNat*esz))) (u.toNat-l.toNat) (cap-l.toNat)) w:=by
   intro a len cap l u c w ρ h0 hl hh hrl hrh g0 g1 g2
   have hb:=Z07 (P:=P) (b:=true) (len:=len) (cap:=cap) hl hh hrl hrh g0 g1 g2
   simp only[Instr.sliceAt,Sem.run_bind,run_underlying hu,Result.andThen_ok,Instr.slice,hb,Q88 (hsz▸h0),hsz,Sem.run_pure]
  cases x<;>simp only at h
  case sl sz es fr=>
   split at h
   ·rename_i l u hl hh
    try rw[<-Els.len_l]at hh
    simp only[Q02,aE,decide_eq_true_eq,<-Els.len_l]at h
    obtain⟨⟨⟨h1,h0⟩,g0,g1,g2⟩,h⟩:=h
    have h1:=bE h1
    have h0:0<esz:=lE h0
    subst h1
    refine⟨_,h,λc w v ρ hm hA hv hrl hrh=>?_⟩
    obtain⟨a,cap,hv,hc,hes⟩:=hv
    subst hv
    refine⟨_,sl a _ cap l u c w ρ h0 hl hh hrl hrh g0 g1 (by omega),?_⟩
    have hlen:((es.drop l.toNat).take (u.toNat-l.toNat)).l.length=u.toNat-l.toNat:=by rw[Els.take_l,Els.drop_l];simp only[List.length_take,List.length_drop];omega
    refine⟨_,cap-l.toNat,by rw[hlen],by omega,?_⟩
    rw[Els.take_l,Els.drop_l]
    by_cases hlu:l=u
    ·left
     subst hlu
     simp
    ·rcases hes with hes|⟨b,off,arr,ty,fz,ha,hI,hf,hh,hE⟩
     ·rw[hes]at g2;simp at g2;omega
     ·right
      subst ha
      refine⟨b,off+l.toNat*sz,arr,ty,fz,?_,hI,hf,hh,Qbg (Qba hE)⟩
      rw[if_neg (by omega)]
      simp[Qdd]
   ·exact h.elim
  case all r=>
   split at h
   ·rename_i box ty sz es hR
    split at h
    ·rename_i l u hl hh
     try rw[<-Els.len_l]at hh
     simp only[Q02,aE,decide_eq_true_eq,<-Els.len_l]at h
     obtain⟨⟨⟨h1,h0⟩,g0,g1,g2⟩,h⟩:=h
     have h1:=bE h1
     have h0:0<esz:=lE h0
     subst h1
     refine⟨_,h,λc w v ρ hm hA hv hrl hrh=>?_⟩
     obtain⟨row,k1,k2,hv⟩:=hv
     have:=hA r row _ k1 hR
     subst this
     rcases hv with⟨hV,a,hv,hoa⟩|⟨hV,cap,arr,hv,k3,k4,k5,k6⟩
     ·have he:=(hm.virt k1 hV).2.1
      simp only at he
      rw[he]at g2 hh
      simp at g2
      subst hv
      refine⟨_,sl a 0 0 l u c w ρ h0 hl hh hrl hrh g0 g1 (by omega),_,k1,k2,by simp only[he,fB];omega,.inl ⟨by omega,a,?_,.inl hoa⟩⟩
      rw[if_pos (by omega)]
      simp;omega
     subst hv
     simp only at*
     refine⟨_,sl _ _ cap l u c w ρ h0 hl hh hrl hrh g0 g1 (by omega),_,k1,k2,by simp only;omega,?_⟩
     by_cases hcl:cap=l.toNat
     ·left
      exact⟨by omega,some ⟨c.ρ r,0,none⟩,by rw[if_pos hcl,show u.toNat-l.toNat=0 by omega,show cap-l.toNat=0 by omega],.inr ⟨hV,λx hx=>by cases hx;rfl⟩⟩
     ·right
      refine⟨hV,cap-l.toNat,arr,by omega,by omega,k5,by rw[if_neg hcl];simp[Qdd],?_⟩
      rw[<-k6];congr 1;omega
    ·exact h.elim
   ·exact h.elim
  case own r o m=>
   split at h
   ·rename_i box ty sz es hR
    split at h
    ·rename_i l u hl hh
     try rw[<-Els.len_l]at hh
     simp only[Q02,aE,decide_eq_true_eq,<-Els.len_l]at h
     obtain⟨⟨⟨h1,h0⟩,g0,g1,g2⟩,h⟩:=h
     have h1:=bE h1
     have h0:0<esz:=lE h0
     subst h1
     refine⟨_,h,λc w v ρ hm hA hv hrl hrh=>?_⟩
     obtain⟨row,k1,k2,k5,hv⟩:=hv
     have:=hA r row _ k1 hR
     subst this
     simp only at*
     rcases hv with⟨k7,a,hv,hoa⟩|⟨hV,cap,arr,k3,k4,k6,hv,k7⟩
     ·subst hv
      subst k7
      refine⟨_,sl a 0 0 l u c w ρ h0 hl hh hrl hrh g0 g1 (by omega),_,k1,k2,by simp only;omega,.inl ⟨by omega,a,?_,hoa⟩⟩
      rw[if_pos (by omega)]
      simp;omega
     ·subst hv
      refine⟨_,sl _ _ cap l u c w ρ h0 hl hh hrl hrh g0 g1 (by omega),_,k1,k2,by simp only;omega,?_⟩
      by_cases hcl:cap=l.toNat
      ·left
       exact⟨by omega,some ⟨c.ρ r,o*sz,none⟩,by rw[if_pos hcl,show u.toNat-l.toNat=0 by omega,show cap-l.toNat=0 by omega],.inr ⟨hV,λx hx=>by cases hx;rfl⟩⟩
      ·right
       refine⟨hV,cap-l.toNat,arr,by omega,by omega,k6,by rw[if_neg hcl];simp[Qdd,Nat.add_mul],?_⟩
       simp only
       rw[<-k7];congr 1;omega
    ·exact h.elim
   ·exact h.elim
 ·rename_i len e esz _ _ _ _ _ ht
  have hk:=Q1q hT ht
  simp only at hk
  obtain⟨hu,hsz⟩:=hk
  cases x
  case iptr sz es i off=>
   split at h
   ·rename_i heq
    cases heq
    split at h
    ·rename_i k _ _ _ _ _ he
     simp only[Q02,aE]at h
     obtain⟨⟨h1,h2,h3⟩,h⟩:=h
     have h1:=bE h1
     have h2:=lE h2
     subst h1
     refine⟨_,h,λc w v ρ hm hA hv _ _=>?_⟩
     obtain⟨b,o,arr,ty,fz,hv,hI,hi,hh,hE⟩:=hv
     subst hv
     obtain⟨q1,q2⟩:=Qke hE hi
     rw[Els.get_l es (by rw[<-Els.len_l];exact hi)]at q1 q2
     have hlen:(Els.ints k (ints (es.get i) off len)).l.length=len:=by simp[Els.l,Z3l]
     refine⟨.slice (some (if len=0 then⟨b,o+i*sz+off,none⟩else Addr.add ⟨b,o+i*sz+off,none⟩ (0*1))) len len,?_,⟨_,len,by rw[hlen],by rw[hlen];exact aO _,.inr ⟨b,o+i*sz+off,arr,ty,fz,?_,hI,(λhf=>by cases hf),hh,Z0z q2 (by omega) h3⟩⟩⟩
     ·simp only[Instr.sliceAt,Instr.sureAddr,Instr.sliceBounds,Sem.run_bind,run_underlying hu,Result.andThen_ok,Sem.run_pure,Q88 (hsz▸Nat.zero_lt_one),hsz,Option.map_none,fU]
     ·congr 1
      split
      ·rfl
      ·simp[Qdd]
    ·exact h.elim
   ·exact h.elim
  all_goals exact h.elim
 ·exact h.elim
theorem xac{P:Program}{T:Tab}(hT:Q34 P T){t t':TypeId}{x:D}{R:Rows}{K:D->Rows->Prop}(h:lenVC T t x R K):
 ∃val,K val R/\∀c w v,Mem c w->Q4w c R->Rep c w x v->Yld P (Builtin.len_ #[t] t' #[v]) w c val:=by
 unfold lenVC at h
 split at h
 ·rename_i ht
  have hu:=Q1q hT ht
  simp only at hu
  cases x<;>simp only at h
  rename_i s
  refine⟨_,h,λc w v hm hA hv=>⟨_,?_,rfl⟩⟩
  rw[Rep.str.1 hv]
  have hsz:(ByteArray.mk s.toArray).size=s.length:=by simp[ByteArray.size]
  have h0:(#[t]:Array TypeId)[0]?=some t:=rfl
  have h1:(#[Value.string ⟨s.toArray⟩]:Array Value)[0]?=some (Value.string ⟨s.toArray⟩):=rfl
  unfold Builtin.len_
  simp only[h0,h1,Sem.run_bind,run_underlying hu,Result.andThen_ok,goInt,hsz,Sem.run_pure]
 ·rename_i e esz _ _ _ _ _ ht
  have hk:=Q1q hT ht
  simp only at hk
  obtain⟨hu,hsz⟩:=hk
  have ln:∀(a:Option Addr) (n cap:Nat) (w:World),(Builtin.len_ #[t] t' #[.slice a n cap]).run P w=.ok (.int .i64 n) w:=by
   intro a n cap w
   simp[Builtin.len_,run_underlying hu,goInt]
  cases x<;>simp only at h
  case nils=>exact⟨_,h,λc w v hm hA hv=>⟨_,by rw[show v=_ from hv];exact ln _ _ _ w,rfl⟩⟩
  case emp=>exact⟨_,h,λc w v hm hA hv=>by obtain⟨a,hv,_⟩:=hv;subst hv;exact⟨_,ln _ _ _ w,rfl⟩⟩
  case sl sz es fr=>
   refine⟨_,h,λc w v hm hA hv=>?_⟩
   obtain⟨a,cap,hv,_⟩:=hv
   subst hv
   exact⟨_,ln _ _ _ w,by rw[Els.len_l];rfl⟩
  case all r=>
   split at h
   ·rename_i box ty sz es hR
    refine⟨_,h,λc w v hm hA hv=>?_⟩
    obtain⟨row,k1,k2,hv⟩:=hv
    have:=hA r row _ k1 hR
    subst this
    rcases hv with⟨hV,a,hv,_⟩|⟨hV,cap,arr,hv,k3,k4,k5,k6⟩
    ·have he:=(hm.virt k1 hV).2.1
     simp only at he
     subst hv
     refine⟨_,ln _ _ _ w,?_⟩
     rw[<-Els.len_l,he];rfl
    ·subst hv
     exact⟨_,ln _ _ _ w,by simp only[Els.len_l];rfl⟩
   ·exact h.elim
  case own r o m=>
   refine⟨_,h,λc w v hm hA hv=>?_⟩
   obtain⟨row,k1,k2,k5,hv⟩:=hv
   rcases hv with⟨h0,a,hv,_⟩|⟨hV,cap,arr,k3,k4,k6,hv,k7⟩
   ·subst hv;subst h0;exact⟨_,ln _ _ _ w,rfl⟩
   ·subst hv;exact⟨_,ln _ _ _ w,rfl⟩
 ·exact h.elim
theorem Q2y.set{c:Ctx}{w:World}:∀{ds:List D} {vs:List Value} {d:D} {v:Value} (i:Nat),Q2y c w ds vs->CRep c w d v->Q2y c w (ds.set i d) (vs.set i v)
 |[],[],_,_,_,h,_=>by simpa using h
 |[],_::_,_,_,_,h,_=>h.elim
 |_::_,[],_,_,_,h,_=>h.elim
 |a::ds,b::vs,d,v,0,h,hd=>⟨hd,h.2⟩
 |a::ds,b::vs,d,v,i+1,h,hd=>⟨h.1,Q2y.set i h.2 hd⟩
theorem Q2y.length{c:Ctx}{w:World}{ds:List D}{vs:List Value}(h:Q2y c w ds vs):ds.length=vs.length:=(Q97.1 h).1
theorem Rep.cells{c:Ctx}{w:World}{d:D}{v:Value}(hd:d.isVal=true)(h:Rep c w d v):Q2y c w d.cells v.cells.toList:=by
 have one:∀d':D,CRep c w d' v->Q2y c w [d'] v.cells.toList:=λd' h'=>by
  have h1:=h'.one
  have:v.cells= #[v]:=by cases v<;>first|rfl|(simp[Value.oneCell']at h1)
  rw[this]
  exact⟨h',trivial⟩
 cases d with
 |agg cs=>
  obtain⟨vs,hv,hr⟩:=h
  subst hv
  simpa[Value.cells,D.cells]using hr
 |tup ds=>simp[D.isVal]at hd
 |dead=>simp[D.isVal]at hd
 |_=>exact one _ h
theorem Q91:∀{xs:List D} {ds:List D} {off:Nat},(Q2d ds off xs).length=ds.length
 |[],_,_=>rfl
 |x::xs,ds,off=>by unfold Q2d;rw[Q91];simp
def Q33:List Value->Nat->List Value->List Value
 |e,_,[]=>e
 |e,off,v::vs=>Q33 (e.set off v) (off+1) vs
theorem Qrm{c:Ctx}{w:World}:∀{xs:List D} {us:List Value} {ds:List D} {vs:List Value} {off:Nat},Q2y c w ds vs->Q2y c w xs us->Q2y c w (Q2d ds off xs) (Q33 vs off us)
 |[],[],_,_,_,h,_=>h
 |[],_::_,_,_,_,_,h=>h.elim
 |_::_,[],_,_,_,_,h=>h.elim
 |x::xs,u::us,ds,vs,off,h,hx=>by unfold Q2d Q33;exact Qrm (h.set off hx.1) hx.2
theorem Qlm:∀(us:List Value) (k off:Nat) (cells:Array Value),
 ((us.zipIdx k).foldl (λcs (x:Value×Nat)=>cs.setIfInBounds (off+x.2) x.1) cells).toList=Q33 cells.toList (off+k) us
 |[],_,_,_=>by simp[Q33]
 |u::us,k,off,cells=>by
  simp only[List.zipIdx_cons,List.foldl_cons,Q33]
  rw[Qlm us (k+1) off]
  simp[Array.toList_setIfInBounds,fO]
theorem Z5k(v:Value)(off:Nat)(cells:Array Value):
 (v.cells.zipIdx.foldl (λcs (x:Value×Nat)=>cs.setIfInBounds (off+x.2) x.1) cells).toList=Q33 cells.toList off v.cells.toList:=by
 rw[<-Array.foldl_toList,Array.toList_zipIdx]
 exact Qlm v.cells.toList 0 off cells
theorem Qwq{place:Nat->Option (Nat×Nat)}{ev:Operand->D}:∀{parts:List (Nat×Operand)} {ds:List D} {K:List D->Prop},Qog place ev parts ds K->
 ∃ ds',K ds'/\∀c w (ρ:Operand->Value) (cells:Array Value),Q2y c w ds cells.toList->(∀p∈parts,Rep c w (ev p.2) (ρ p.2))->
  ∃cells',Instr.fill place cells (parts.map λp=>(p.1,ρ p.2))=some cells'/\Q2y c w ds' cells'.toList
 |[],ds,K,h=>⟨ds,D.forceL_iff.1 h,λc w ρ cells hr _=>⟨cells,rfl,hr⟩⟩
 |(i,x)::ps,ds,K,h=>by
  unfold Qog at h
  split at h
  ·rename_i off n hp
   simp only[Q02,aE]at h
   obtain⟨⟨⟨hv,hn⟩,hle⟩,h⟩:=h
   have hn:=bE hn
   have hle:=lE hle
   obtain⟨ds',hK,hr⟩:=Qwq h
   refine⟨ds',hK,λc w ρ cells hc hps=>?_⟩
   have hx:=Rep.cells hv (hps (i,x) (by simp))
   have hlen:(ρ x).cells.size=n:=by rw[<-hn,hx.length];simp
   have hsz:cells.size=ds.length:=by rw[hc.length];simp
   have hnew:Q2y c w (Q2d ds off (ev x).cells) ((ρ x).cells.zipIdx.foldl (λcs (x:Value×Nat)=>cs.setIfInBounds (off+x.2) x.1) cells).toList:=by
    rw[Z5k];exact Qrm hc hx
   obtain⟨cells',h1,h2⟩:=hr c w ρ _ hnew (λp hp=>hps p (by simp[hp]))
   refine⟨cells',?_,h2⟩
   simp only[eJ,Instr.fill,hp]
   rw[if_neg (by simp;omega)]
   exact h1
  ·exact h.elim
theorem Qza{v:Value}{d:D}(h:Z6g v=some d)(c:Ctx)(w:World):CRep c w d v:=by
 cases v<;>simp only[Z6g]at h<;>first|(cases h;done)|skip
 case nilIface=>simp at h;subst h;rfl
 case nilFunc=>simp at h;subst h;rfl
 case bool b=>simp at h;subst h;rfl
 case int k n=>simp at h;subst h;rfl
 case string s=>simp at h;subst h;simp[CRep]
 case pointer a=>cases a<;>simp at h;subst h;rfl
 case slice a n cp=>
  split at h
  all_goals first|(simp at h;subst h;simp_all [CRep];done)|(simp_all;done)
theorem Qbb:∀{vs:List Value} {ds:List D},Qi9 vs=some ds->∀(c:Ctx) (w:World),Q2y c w ds vs
 |[],ds,h,c,w=>by simp[Qi9]at h;subst h;trivial
 |v ::vs,ds,h,c,w=>by
  simp only[Qi9]at h
  split at h
  ·rename_i d l h1 h2
   simp at h;subst h
   exact⟨Qza h1 c w,Qbb h2 c w⟩
  ·cases h
theorem Qjr{v:Value}{d:D}(h:Z3o v=some d)(c:Ctx)(w:World):Rep c w d v:=by
 have one:Z6g v=some d->Rep c w d v:=λh=>by
  have:=Qza h c w
  cases d<;>first|exact this|trivial|exact this.elim
 cases v with
 |agg cs=>
  simp only[Z3o,fL]at h
  obtain⟨ds,h1,h2⟩:=h
  subst h2
  exact⟨cs.toList,by simp,Qbb h1 c w⟩
 |_=>exact one h
theorem Qbu{P:Program}{T:Tab}(hT:Q34 P T){t:TypeId}{k:TK}{a b:Nat}{cs:List CTy}{z:List D}{e:Bool}(h:T.get t=some ⟨k,a,b,cs,some z,e⟩):
 ∃i u,P.info? t=some i/\i.zero=some u/\Qi9 u.cells.toList=some z/\i.size=a/\i.bytes=b/\P.cellsOf t=a/\∀w,(zeroValue t).run P w=.ok u w:=by
 obtain⟨i,hi,hs,hb,hl,hk,hz,_⟩:=Q7k (hT.get h)
 simp only at hz hs hb
 have hz:=hz.symm
 simp only[Option.bind_eq_some_iff]at hz
 obtain⟨u,hu,hz⟩:=hz
 refine⟨i,u,hi,hu,hz,hs,hb,by simp[Program.cellsOf,hi,hs],λw=>?_⟩
 simp[zeroValue,typeInfo,hi,hu]
theorem Qz5{P:Program}(w:World):∀(fs:List Field),(∀f∈fs,0<P.cellsOf f.type)->
 (fs.mapM λf=>do pure (f.offset,<-sizeOf f.type):Sem (List (Nat×Nat))).run P w=.ok (fs.map λf=>(f.offset,P.cellsOf f.type)) w
 |[],_=>rfl
 |f::fs,h=>by
  simp only[List.mapM_cons,Sem.run_bind,Q88 (h f (by simp)),Result.andThen_ok,Sem.run_pure,Qz5 w fs (λg hg=>h g (by simp[hg])),eJ]
theorem xG{P:Program}{T:Tab}(hT:Q34 P T){t:TypeId}{parts:List (Nat×Operand)}{ev:Operand->D}{R:Rows}{K:D->Rows->Prop}(h:Qpp T t parts ev R K):
 ∃val,K val R/\∀c w (ρ:Operand->Value),(∀p∈parts,Rep c w (ev p.2) (ρ p.2))->Yld P (Instr.build t (parts.map λp=>(p.1,ρ p.2)).toArray) w c val:=by
 unfold Qpp at h
 split at h
 ·rename_i fs _ _ _ ds _ ht
  obtain⟨i,u,hi,hu,hz,_,_,_,hzero⟩:=Qbu hT ht
  obtain⟨gs,hd,hfs⟩:=Q1q hT ht
  rw[Q02]at h
  obtain⟨hpos,h⟩:=h
  have hpos:∀f∈gs.toList,0<P.cellsOf f.type:=λf hf=>by
   have:=List.all_eq_true.1 hpos (f.offset,f.type,P.cellsOf f.type) (by rw[hfs];exact List.mem_map.2 ⟨f,hf,rfl⟩)
   exact lE this
  obtain⟨ds',hK,hr⟩:=Qwq h
  refine⟨_,hK,λc w ρ hps=>?_⟩
  obtain⟨cells',h1,h2⟩:=hr c w ρ u.cells (Qbb hz c w) hps
  refine⟨.agg cells',?_,cells'.toList,by simp,h2⟩
  have hpl:(gs.mapM λf=>do pure (f.offset,<-sizeOf f.type):Sem (Array (Nat×Nat))).run P w=.ok (gs.map λf=>(f.offset,P.cellsOf f.type)) w:=by
   have:=Qz5 (P:=P) w gs.toList hpos
   rw[<-bU (xs:=gs),List.mapM_toArray]
   simp only[Sem.run_map,this,Result.andThen_ok,bU]
   congr 1
   apply Array.ext'
   simp
  have hpe:(λ(i:Nat)=>(gs.map λf=>(f.offset,P.cellsOf f.type))[i]?)=(λ(i:Nat)=>(fs[i]?).map λ(f:Nat×TypeId×Nat)=>(f.1,f.2.2)):=by
   funext i
   rw[hfs]
   simp
   cases gs[i]? <;>rfl
  unfold Instr.build
  simp only[Sem.run_bind,hzero,Result.andThen_ok,run_underlying hd,hpl]
  rw[hpe]
  simp only[h1,Sem.run_pure]
 ·rename_i m e esz _ _ _ ds _ ht
  obtain⟨i,u,hi,hu,hz,_,_,_,hzero⟩:=Qbu hT ht
  have hk:=Q1q hT ht
  simp only at hk
  rw[Q02]at h
  obtain⟨h0,h⟩:=h
  have h0:0<esz:=lE h0
  obtain⟨ds',hK,hr⟩:=Qwq h
  refine⟨_,hK,λc w ρ hps=>?_⟩
  obtain⟨cells',h1,h2⟩:=hr c w ρ u.cells (Qbb hz c w) hps
  refine⟨.agg cells',?_,cells'.toList,by simp,h2⟩
  unfold Instr.build
  simp only[Sem.run_bind,hzero,Result.andThen_ok,run_underlying hk.1,Q88 (hk.2▸h0),hk.2]
  simp only[h1,Sem.run_pure]
 ·exact h.elim
def Z10(c:Ctx)(w:World)(row:Row)(arr:Array Value):Prop:=
 0<row.sz/\if row.box then∃e,row.es=.gen [e]/\e.length=row.sz/\arr.size=row.sz/\Q32 c w e arr 0 else Q15 c.I w row.es.l arr 0 row.sz
def Z3y(P:Program)(x:Sem Value)(w:World)(c:Ctx)(k:Nat)(row:Row)(d:D):Prop:=
 ∃u arr,x.run P w=.ok u (w.alloc (.cells arr row.ty))/\Z10 c w row arr/\(c.R k=none->Mem c w->Rep (c.add k row w.heap.size) (w.alloc (.cells arr row.ty)) d u)
theorem Z63{c:Ctx}{w:World}:∀{ds:List D} {vs:List Value} {pre:List Value},Q2y c w ds vs->Q32 c w ds (pre++vs).toArray pre.length
 |[],_,_,_=>trivial
 |d::ds,[],_,h=>h.elim
 |d::ds,v::vs,pre,h=>by
  refine⟨⟨v,by simp,h.1⟩,?_⟩
  have:=Z63 (pre:=pre++[v]) h.2
  simpa using this
theorem Z6p{c:Ctx}{w:World}{t:TypeId}{sz:Nat}{ds:List D}{vs:Array Value}(h0:0<sz)(hl:ds.length=sz)(h:Q2y c w ds vs.toList):Z10 c w ⟨true,t,sz,.gen [ds]⟩ vs:=by
 refine⟨h0,?_⟩
 simp only[if_true]
 refine⟨ds,rfl,hl,by rw[<-hl,h.length];simp,?_⟩
 have:=Z63 (pre:=[]) h
 simpa using this
theorem Qq2(P:Program)(t:TypeId)(v:Value)(w:World):(newVar t v).run P w=.ok ⟨w.heap.size,0,none⟩ (w.alloc (.cells v.cells t)):=rfl
theorem Z9a{P:Program}{T:Tab}(hT:Q34 P T){t:TypeId}{k:TK}{sz b:Nat}{cs:List CTy}{ds:List D}{e:Bool}(ht:T.get t=some ⟨k,sz,b,cs,some ds,e⟩)(h0:0<sz)(hl:ds.length=sz)(n:Nat)(c:Ctx)(w:World):
 Z3y P (Instr.alloc t true (.tuple #[])) w c n ⟨true,t,sz,.gen [ds]⟩ (.ptr n 0 0):=by
 obtain⟨i,u,hi,hu,hz,_,_,_,hzero⟩:=Qbu hT ht
 refine⟨.pointer (some ⟨w.heap.size,0,none⟩),u.cells,?_,Z6p h0 hl (Qbb hz c w),λ_ _=>?_⟩
 ·simp only[Instr.alloc,Sem.run_bind,hzero,Result.andThen_ok,Qq2,Sem.run_pure]
 ·exact⟨_,(Ctx.add_self _ _ _ _).1,by simp[Ctx.add],by simp[Els.len],by simp[(Ctx.add_self _ _ _ _).2]⟩
theorem qad{P:Program}{t:TypeId}{sz:Nat}{d:D}{v:Value}(h0:0<sz)(hv:d.isVal=true)(hl:d.cells.length=sz)(n:Nat)(c:Ctx)(w:World)(hr:Rep c w d v):
 Z3y P (Instr.box t v) w c n ⟨true,t,sz,.gen [d.cells]⟩ (.ptr n 0 0):=by
 refine⟨.pointer (some ⟨w.heap.size,0,none⟩),v.cells,?_,Z6p h0 hl (Rep.cells hv hr),λ_ _=>?_⟩
 ·simp only[Instr.box,Sem.run_bind,Qq2,Result.andThen_ok,Sem.run_pure]
 ·exact⟨_,(Ctx.add_self _ _ _ _).1,by simp[Ctx.add],by simp[Els.len],by simp[(Ctx.add_self _ _ _ _).2]⟩
theorem Q31{I:Blocks}{w:World}:∀{cs:List D} {arr:Array Value} {off:Nat},Q8i I w cs arr off↔ ∀j,j<cs.length->∃v,arr[off+j]?=some v/\PRep I w (cs.getD j .dead) v
 |[],arr,off=>by simp[Q6o,Q5]
 |d ::cs,arr,off=>by
  simp only[Q6o,Q5,Q31 (cs:=cs)]
  constructor
  ·rintro⟨h1,h2⟩ j hj
   cases j with
   |zero=>simpa using h1
   |succ j=>
    have:=h2 j (by simpa using hj)
    rw[show off+1+j=off+(j+1) by omega]at this
    simpa using this
  ·intro h
   refine⟨by simpa using h 0 (by simp),λj hj=>?_⟩
   have:=h (j+1) (by simpa using hj)
   rw[show off+(j+1)=off+1+j by omega]at this
   simpa using this
theorem Q2u{I:Blocks}{w:World}:∀{es:List (List D)} {arr:Array Value} {off sz:Nat},Q15 I w es arr off sz↔ ∀i,i<es.length->(es.getD i []).length=sz/\Q8i I w (es.getD i []) arr (off+i*sz)
 |[],arr,off,sz=>by simp[Q25,Q1u]
 |e ::es,arr,off,sz=>by
  simp only[Q25,Q1u,Q2u (es:=es)]
  constructor
  ·rintro⟨h1,h2,h3⟩ i hi
   cases i with
   |zero=>simpa using⟨h1,h2⟩
   |succ i=>
    have:=h3 i (by simpa using hi)
    rw[show off+sz+i*sz=off+(i+1)*sz by rw[aW];omega]at this
    simpa using this
  ·intro h
   have h0:=h 0 (by simp)
   simp at h0
   refine⟨h0.1,h0.2,λi hi=>?_⟩
   have:=h (i+1) (by simpa using hi)
   rw[show off+(i+1)*sz=off+sz+i*sz by rw[aW];omega]at this
   simpa using this
theorem Qzm{c:Ctx}{w:World}:∀{cs:List D} {arr:Array Value} {off:Nat},Q32 c w cs arr off↔ ∀j,j<cs.length->∃v,arr[off+j]?=some v/\CRep c w (cs.getD j .dead) v
 |[],arr,off=>by simp[Q32]
 |d ::cs,arr,off=>by
  simp only[Q32,Qzm (cs:=cs)]
  constructor
  ·rintro⟨h1,h2⟩ j hj
   cases j with
   |zero=>simpa using h1
   |succ j=>
    have:=h2 j (by simpa using hj)
    rw[show off+1+j=off+(j+1) by omega]at this
    simpa using this
  ·intro h
   refine⟨by simpa using h 0 (by simp),λj hj=>?_⟩
   have:=h (j+1) (by simpa using hj)
   rw[show off+(j+1)=off+1+j by omega]at this
   simpa using this
theorem Qcb:∀{us vs:List Value} {off k:Nat},off+us.length<=vs.length->(Q33 vs off us)[k]?=if off<=k/\k<off+us.length then us[k-off]? else vs[k]?
 |[],vs,off,k,_=>by
  have:¬(off<=k/\k<off):=by omega
  simp[Q33,this]
 |u ::us,vs,off,k,h=>by
  simp only[cZ]at h
  unfold Q33
  rw[Qcb (us:=us) (by simp;omega)]
  by_cases h1:off+1<=k/\k<off+1+us.length
  ·rw[if_pos h1,if_pos (by simp;omega)]
   rw[show k-off=(k-(off+1))+1 by omega]
   simp
  ·rw[if_neg h1]
   by_cases h2:k=off
   ·subst h2
    rw[if_pos (by simp)]
    simp only[fV,fW]
    rw[fX (by omega)]
   ·rw[if_neg (by simp;omega),fY (by omega)]
theorem Qao:∀{us vs:List Value} {off:Nat},(Q33 vs off us).length=vs.length
 |[],_,_=>rfl
 |u::us,vs,off=>by unfold Q33;rw[Qao];simp
theorem Q7j:∀{us vs:List D} {off k:Nat},off+us.length<=vs.length->(Q2d vs off us)[k]?=if off<=k/\k<off+us.length then us[k-off]? else vs[k]?
 |[],vs,off,k,_=>by
  have:¬(off<=k/\k<off):=by omega
  simp[Q2d,this]
 |u ::us,vs,off,k,h=>by
  simp only[cZ]at h
  unfold Q2d
  rw[Q7j (us:=us) (by simp;omega)]
  by_cases h1:off+1<=k/\k<off+1+us.length
  ·rw[if_pos h1,if_pos (by simp;omega)]
   rw[show k-off=(k-(off+1))+1 by omega]
   simp
  ·rw[if_neg h1]
   by_cases h2:k=off
   ·subst h2
    rw[if_pos (by simp)]
    simp only[fV,fW]
    rw[fX (by omega)]
   ·rw[if_neg (by simp;omega),fY (by omega)]
theorem CRep.plain{c:Ctx}{w:World}{d:D}{v:Value}(hp:d.plain=true)(h:CRep c w d v):PRep c.I w d v:=by
 cases d<;>(try(simp[D.plain]at hp;done))
 case bool=>exact Q38.2 h
 case int=>exact Q4u.2 h
 case str=>exact Q4s.2 h
 case nilp=>exact Q39.2 h
 case nils=>exact Q3c.2 h
 case emp=>exact Q4p.2 (let⟨a,g,_⟩:=h;⟨a,g⟩)
 obtain⟨a,cap,hv,hc,hes⟩:=h
 refine Q8n.2 ⟨a,cap,hv,hc,?_⟩
 rcases hes with hes|⟨b,off,arr,ty,fz,ha,hI,hf,hh,hE⟩
 ·exact .inl hes
 ·exact .inr ⟨b,off,arr,ty,fz,ha,hI,hh,Qtl.2 hE⟩
theorem Qr3{c:Ctx}{w:World}{es:List (List D)}{arr:List Value}{sz i off:Nat}{xs:List D}{us:List Value}(h:Q15 c.I w es arr.toArray 0 sz)(hi:i<es.length)(hoff:off+xs.length<=sz)
 (hx:Q2y c w xs us) (hp:xs.all D.plain=true) (ha:i*sz+sz<=arr.length):Q15 c.I w (es.set i (Q2d (es.getD i []) off xs)) (Q33 arr (i*sz+off) us).toArray 0 sz:=by
 have hlen:=hx.length
 rw[Q2u]at h⊢
 intro k hk
 have hk':k<es.length:=by simpa using hk
 obtain⟨h1,h2⟩:=h k hk'
 rw[Q31]at h2
 by_cases hik:k=i
 ·subst hik
  have he:(es.set k (Q2d (es.getD k []) off xs)).getD k []=Q2d (es.getD k []) off xs:=by simp[aK,hk']
  rw[he]
  refine⟨by rw[Q91];exact h1,?_⟩
  rw[Q31]
  intro j hj
  rw[Q91,h1]at hj
  have hg:(Q2d (es.getD k []) off xs).getD j .dead=if off<=j/\j<off+xs.length then(xs.getD (j-off) .dead)else(es.getD k []).getD j .dead:=by
   simp only[aK]
   rw[Q7j (by simp only[aK]at h1;omega)]
   split<;>rfl
  have hv:(Q33 arr (k*sz+off) us).toArray[0+k*sz+j]?=if off<=j/\j<off+xs.length then us[j-off]? else arr[k*sz+j]? :=by
   simp only[aY,aX]
   rw[Qcb (by omega)]
   by_cases hc:off<=j/\j<off+xs.length
   ·rw[if_pos (by omega),if_pos hc];congr 1;omega
   ·rw[if_neg (by omega),if_neg hc]
  rw[hg,hv]
  split
  ·rename_i hc
   have hjl:j-off<us.length:=by omega
   have hpl:(xs.getD (j-off) .dead).plain=true:=by
    have hm:xs.getD (j-off) .dead∈xs:=by
     simp only[aK,cI (show j-off<xs.length by omega),aG]
     exact eK _
    exact List.all_eq_true.1 hp _ hm
   exact⟨us[j-off],cI hjl,CRep.plain hpl ((Q97.1 hx).2 _ _ (cI hjl))⟩
  ·obtain⟨v,hv1,hv2⟩:=h2 j (by rw[h1];exact hj)
   exact⟨v,by simpa using hv1,hv2⟩
 ·have he:(es.set i (Q2d (es.getD i []) off xs)).getD k []=es.getD k []:=by
   simp[aK,fY (Ne.symm hik)]
  rw[he]
  refine⟨h1,?_⟩
  rw[Q31]
  intro j hj
  obtain⟨v,hv1,hv2⟩:=h2 j hj
  refine⟨v,?_,hv2⟩
  simp only[aY,aX]at hv1⊢
  rw[Qcb (by omega),if_neg]
  ·exact hv1
  ·rw[h1]at hj
   rintro⟨g1,g2⟩
   rcases Nat.lt_or_gt_of_ne hik with hlt|hlt
   ·have:=aV sz (show k+1<=i by omega)
    rw[aW]at this
    omega
   ·have:=aV sz (show i+1<=k by omega)
    rw[aW]at this
    omega
theorem Qul{I:Blocks}{w:World}{es:List (List D)}{arr:Array Value}{sz i:Nat}(h:Q15 I w es arr 0 sz)(h0:0<sz)(hi:i<es.length):i*sz+sz<=arr.size:=by
 obtain⟨h1,h2⟩:=Q2u.1 h i hi
 obtain⟨v,hv,_⟩:=Q31.1 h2 (sz-1) (by omega)
 have:=(Array.getElem?_eq_some_iff.1 hv).1
 omega
def Ctx.upd(c:Ctx)(r:Nat)(row:Row):Ctx:={c with R:=λs=>if s=r then some row else c.R s}
theorem Qc6(w:World)(g:Nat)(cs:Array Value):Fr (λb=>b=g) w (w.setRow g cs):=
 ⟨rfl,rfl,rfl,by simp[World.setRow],λb _ hb=>setRow_other w g b cs hb⟩
theorem Mem.write{c:Ctx}{w:World}(hm:Mem c w){r:Nat}{row row':Row}{old arr:Array Value}(hr:c.R r=some row)(hV:¬c.V r)(hh:w.heap[c.ρ r]?=some (.cells old row.ty (0,0)))(hsz:arr.size=old.size)
 (h1:row'.box=row.box) (h2:row'.ty=row.ty) (h3:row'.sz=row.sz) (h4:row'.es.l.length=row.es.l.length):
 Q2n c w (c.upd r row') (w.setRow (c.ρ r) arr)/\(Z10 (c.upd r row') (w.setRow (c.ρ r) arr) row' arr->Mem (c.upd r row') (w.setRow (c.ρ r) arr)):=by
 have hnew:(w.setRow (c.ρ r) arr).heap[c.ρ r]?=some (.cells arr row.ty (0,0)):=setRow_heap w _ _ _ _ _ hh
 have hoth:∀s x,c.R s=some x->¬c.V s->s≠r->(w.setRow (c.ρ r) arr).heap[c.ρ s]?=w.heap[c.ρ s]? :=λs x hs hv hne=>setRow_other w _ _ _ (λe=>hne (hm.inj s r x row hs hr hv hV e))
 have hg:Q2n c w (c.upd r row') (w.setRow (c.ρ r) arr):=by
  refine⟨rfl,aO _,λb hb=>⟨hb,setRow_other w _ _ _ (λe=>(hm.imm b hb).2 r row hr hV e.symm)⟩,λs x hs=>?_⟩
  by_cases e:s=r
  ·subst e
   rw[hr]at hs;cases hs
   exact⟨row',by simp[Ctx.upd],h1,h2,h3,h4,rfl,Iff.rfl,λ_ a ha=>⟨arr,hnew,by rw[hh]at ha;cases ha;exact hsz⟩⟩
  ·exact⟨x,by simp[Ctx.upd,e,hs],rfl,rfl,rfl,rfl,rfl,Iff.rfl,λnv a ha=>⟨a,by rw[hoth s x hs nv e];exact ha,rfl⟩⟩
 refine⟨hg,λhi=>⟨λs x hs=>?_,λs q x y hs hq v1 v2 he=>?_,λb hb=>?_,by show c.top<=(w.setRow _ _).heap.size;simpa[World.setRow]using hm.top,hm.tab.mono hg.I⟩⟩
 ·by_cases e:s=r
  ·subst e
   simp only[Ctx.upd,if_true,Option.some.injEq]at hs
   subst hs
   exact .inr ⟨hV,arr,by rw[h2];exact hnew,hi.1,hi.2⟩
  ·have hs':c.R s=some x:=by simpa[Ctx.upd,e]using hs
   exact Q2a hg rfl Iff.rfl (λnv=>hoth s x hs' nv e) (hm.row s x hs')
 ·have old:∀s x,(c.upd r row').R s=some x->∃x',c.R s=some x':=λs x hs=>by
   by_cases e:s=r
   ·exact⟨row,by rw[e];exact hr⟩
   ·exact⟨x,by simpa[Ctx.upd,e]using hs⟩
  obtain⟨x',hx'⟩:=old s x hs
  obtain⟨y',hy'⟩:=old q y hq
  exact hm.inj s q x' y' hx' hy' v1 v2 he
 ·obtain⟨g1,g2⟩:=hm.imm b hb
  refine⟨by simpa[World.setRow]using g1,λs x hs hv=>?_⟩
  by_cases e:s=r
  ·subst e;exact g2 s row hr hV
  ·exact g2 s x (by simpa[Ctx.upd,e]using hs) hv
theorem Z78{P:Program}{t:TypeId}{n:Nat}(hs:P.cellsOf t=n)(h0:0<n){w:World}{g o:Nat}{ty:TypeId}{cur:Array Value}(hg:w.heap[g]?=some (.cells cur ty (0,0))){v:Value}(hn:v.cells.size=n)(hr:o+n<=cur.size)(h1:∀u∈v.cells.toList,u.oneCell'=true):
 (Instr.storeAt t (.pointer (some ⟨g,o,none⟩)) v).run P w=.ok () (w.setRow g (Q33 cur.toList o v.cells.toList).toArray):=by
 have h:=run_storeCells_at (P:=P) g o ty v.cells.toList 0 cur w hg (by simp;omega) h1
 have hne:¬v.cells.size≠P.cellsOf t:=by omega
 simp only[Instr.storeAt,Instr.sureAddr,Sem.run_bind,Sem.run_pure,Result.andThen_ok,storeVar,Q88 (hs▸h0),Sem.run_ite,hne,if_false,h]
 congr 3
 apply cN
 intro k
 rw[Qcb (by simp;omega)]
 simp only[bH,Array.length_toList]
 by_cases hc:o<=k/\k<o+v.cells.size
 ·rw[if_pos hc,cP,bB (by simp;omega),aZ (by simp;omega)]
  congr 1;simp;omega
 ·rw[if_neg hc]
  by_cases hk:k<o
  ·rw[cP,aZ (by simp;omega),List.getElem?_take_of_lt hk]
  ·rw[bB (by simp;omega),List.getElem?_drop]
   congr 1;simp;omega
theorem Q2y.one{c:Ctx}{w:World}:∀{ds:List D} {vs:List Value},Q2y c w ds vs->∀u∈vs,u.oneCell'=true
 |[],[],_,_,h=>by simp at h
 |d::ds,v::vs,h,u,hu=>by
  rcases List.mem_cons.1 hu with e|e
  ·subst e;exact CRep.one h.1
  ·exact Q2y.one h.2 u e
theorem Z3n{c:Ctx}{w:World}{e:List D}{arr:List Value}{off:Nat}{xs:List D}{us:List Value}(h:Q32 c w e arr.toArray 0)(hoff:off+xs.length<=e.length)(he:e.length=arr.length)
 (hx:Q2y c w xs us):Q32 c w (Q2d e off xs) (Q33 arr off us).toArray 0:=by
 have hlen:=hx.length
 rw[Qzm]at h⊢
 intro j hj
 rw[Q91]at hj
 simp only[aK,aY,aX]at h⊢
 rw[Q7j hoff,Qcb (by omega)]
 by_cases hc:off<=j/\j<off+xs.length
 ·rw[if_pos hc,if_pos (by omega)]
  have hjl:j-off<us.length:=by omega
  exact⟨us[j-off],cI hjl,(Q97.1 hx).2 _ _ (cI hjl)⟩
 ·rw[if_neg hc,if_neg (by omega)]
  exact h j hj
def Wrote(P:Program)(x:Sem Unit)(w:World)(c:Ctx)(R':Rows):Prop:=
 ∃r row' arr w',x.run P w=.ok () w'/\w'=w.setRow (c.ρ r) arr/\(∃row,c.R r=some row)/\¬c.V r/\Q2n c w (c.upd r row') w'/\Mem (c.upd r row') w'/\∀s,(c.upd r row').R s=R'.getD s none
theorem Z02{k:IntKind}{l:List Int}:∀{n j i:Nat},i<n->(Qr4 k l j n)[i]?=some (.int k (l.getD (j+i) 0))
 |n+1,j,0,_=>by simp[Qr4]
 |n+1,j,i+1,h=>by
  have:=Z02 (k:=k) (l:=l) (n:=n) (j:=j+1) (i:=i) (by omega)
  rw[show j+1+i=j+(i+1) by omega]at this
  simpa[Qr4]using this
theorem Qh7{k:IntKind}{l:List Int}:∀{n j:Nat},(Qr4 k l j n).length=n
 |0,_=>rfl
 |n+1,j=>by simp[Qr4,Qh7 (n:=n)]
theorem Z0b{l:List Bool}:∀{n j i:Nat},i<n->(Qrx l j n)[i]?=some (.bool (l.getD (j+i) false))
 |n+1,j,0,_=>by simp[Qrx]
 |n+1,j,i+1,h=>by
  have:=Z0b (l:=l) (n:=n) (j:=j+1) (i:=i) (by omega)
  rw[show j+1+i=j+(i+1) by omega]at this
  simpa[Qrx]using this
theorem Qhj{l:List Bool}:∀{n j:Nat},(Qrx l j n).length=n
 |0,_=>rfl
 |n+1,j=>by simp[Qrx,Qhj (n:=n)]
theorem Qvq{e:List D}:∀{n off:Nat},(ints e off n).length=n
 |0,_=>rfl
 |n+1,off=>by simp[ints,Qvq (n:=n)]
theorem Qs{e:List D}:∀{n off:Nat},(bools e off n).length=n
 |0,_=>rfl
 |n+1,off=>by simp[bools,Qs (n:=n)]
theorem Z20{R:Rows}{r:Nat}{row row':Row}(h:R.getD r none=some row)(s:Nat):(R.set r (some row')).getD s none=if s=r then some row' else R.getD s none:=by
 have hlt:r<R.length:=by
  by_cases hl:r<R.length
  ·exact hl
  ·rw[aK,aM (by omega)]at h;cases h
 by_cases e:s=r
 ·subst e
  simp[aK,hlt]
 ·simp[aK,e,fY (Ne.symm e)]
theorem Z3b{P:Program}{t:TypeId}{n:Nat}(hcells:P.cellsOf t=n)(h0:0<n){R:Rows}{r i off:Nat}{box:Bool}{ty:TypeId}{sz:Nat}{es es':Els}{d:D}
 (hR:R.getD r none=some ⟨box,ty,sz,es⟩) (hv:d.isVal=true) (hn:d.cells.length=n) (hle:off+n<=sz) (hp:box=false->d.cells.all D.plain=true)
 {c:Ctx} {w:World} {v:Value} (hm:Mem c w) (hA:∀r,c.R r=R.getD r none) (hV:¬c.V r) (hi:i<es.l.length) (hes:es'.l=es.l.set i (Q2d (es.l.getD i []) off d.cells)) (hbx:box=true->es'=.gen [Q2d (es.get i) off d.cells]) (hd:Rep c w d v):
 Wrote P (Instr.storeAt t (.pointer (some ⟨c.ρ r,i*sz+off,none⟩)) v) w c (R.set r (some ⟨box,ty,sz,es'⟩)):=by
 have g1:c.R r=some ⟨box,ty,sz,es⟩:=by rw[hA];exact hR
 have hx:=Rep.cells hv hd
 obtain⟨old,ho,hs,hb⟩:=hm.real g1 hV
 have hvn:v.cells.size=n:=by rw[<-hn,hx.length];simp
 simp only at ho hs hb
 have fin:∀row':Row,row'=⟨box,ty,sz,es'⟩->i*sz+off+n<=old.size->
  (∀c' w',Q2n c w c' w'->if row'.box then∃e,row'.es=.gen [e]/\e.length=row'.sz/\(Q33 old.toList (i*sz+off) v.cells.toList).toArray.size=row'.sz/\Q32 c' w' e (Q33 old.toList (i*sz+off) v.cells.toList).toArray 0
   else Q15 c'.I w' row'.es.l (Q33 old.toList (i*sz+off) v.cells.toList).toArray 0 row'.sz)->Wrote P (Instr.storeAt t (.pointer (some ⟨c.ρ r,i*sz+off,none⟩)) v) w c (R.set r (some row')):=by
  intro row' hrow hsz hnew
  have hrun:=Z78 (P:=P) hcells h0 (o:=i*sz+off) ho hvn hsz hx.one
  have hs2:(Q33 old.toList (i*sz+off) v.cells.toList).toArray.size=old.size:=by simp[Qao]
  have hw:=hm.write (row':=row') g1 hV ho hs2 (by rw[hrow]) (by rw[hrow]) (by rw[hrow]) (by rw[hrow];simp only[hes,List.length_set])
  refine⟨r,row',_,_,hrun,rfl,⟨_,g1⟩,hV,hw.1,hw.2 ⟨by rw[hrow];exact hs,hnew _ _ hw.1⟩,λs=>?_⟩
  rw[Z20 hR]
  simp only[Ctx.upd]
  split
  ·rfl
  ·exact hA s
 cases box with
 |true=>
  simp only[if_true]at hb
  obtain⟨e,k1,k2,k3,k4⟩:=hb
  rw[k1]at hi hes hbx
  have hi0:i=0:=by simpa[Els.l]using hi
  subst hi0
  simp only[fZ,aX]at fin⊢
  refine fin _ rfl (by omega) λc' w' hg=>?_
  simp only[if_true]
  refine⟨Q2d e off d.cells,hbx rfl,by rw[Q91];exact k2,by simp[Qao,k3],Qet hg (Z3n (by simpa using k4) (by omega) (by simp;omega) hx)⟩
 |false=>
  simp only[aN,if_false]at hb
  have hroom:=Qul hb hs hi
  refine fin _ rfl (by omega) λc' w' hg=>?_
  simp only[aN,if_false]
  rw[hes]
  exact Q11 hg.I _ _ _ _ (Qr3 (c:=c) (by simpa using hb) hi (by omega) hx (hp rfl) (by simpa using hroom))
theorem zad{k:IntKind}{e:List D}{off len n:Nat}{v:Int}(h:Qia k e off len=true)(hl:off+len<=e.length)(hn:n<len):
 Q2d e off (Qr4 k ((ints e off len).set n v) 0 len)=Q2d e (off+n) [.int k v]:=by
 apply cN
 intro j
 rw[Q7j (by rw[Qh7];omega),Q7j (by simp;omega)]
 simp only[Qh7,cZ,fB]
 by_cases h1:off<=j/\j<off+len
 ·rw[if_pos h1,Z02 (by omega)]
  by_cases h2:j=off+n
  ·subst h2
   rw[if_pos (by omega)]
   simp[aK,Qvq,show off+n-off=n by omega,hn]
  ·rw[if_neg (by omega)]
   have hg:=Qti (e:=e) (off:=off) (show j-off<len by omega)
   have hi:=D.isInt_eq (Qgm h (show j-off<len by omega))
   rw[show off+(j-off)=j by omega]at hg hi
   have hj:e[j]?=some e[j]:=cI (by omega)
   simp only[aK,hj,aG]at hg hi
   rw[hj]
   simp only[aK,aX]
   rw[fY (by omega)]
   rw[hg,<-hi]
 ·rw[if_neg h1,if_neg (by omega)]
theorem zW{e:List D}{off len n:Nat}{v:Bool}(h:Qh4 e off len=true)(hl:off+len<=e.length)(hn:n<len):
 Q2d e off (Qrx ((bools e off len).set n v) 0 len)=Q2d e (off+n) [.bool v]:=by
 apply cN
 intro j
 rw[Q7j (by rw[Qhj];omega),Q7j (by simp;omega)]
 simp only[Qhj,cZ,fB]
 by_cases h1:off<=j/\j<off+len
 ·rw[if_pos h1,Z0b (by omega)]
  by_cases h2:j=off+n
  ·subst h2
   rw[if_pos (by omega)]
   simp[aK,Qs,show off+n-off=n by omega,hn]
  ·rw[if_neg (by omega)]
   have hg:=Qmv (e:=e) (off:=off) (show j-off<len by omega)
   have hi:=D.isBool_eq (Qdl h (show j-off<len by omega))
   rw[show off+(j-off)=j by omega]at hg hi
   have hj:e[j]?=some e[j]:=cI (by omega)
   simp only[aK,hj,aG]at hg hi
   rw[hj]
   simp only[aK,aX]
   rw[fY (by omega)]
   rw[hg,<-hi]
 ·rw[if_neg h1,if_neg (by omega)]
theorem Z0c{k:IntKind}{e:List D}{off len n:Nat}(h:Qia k e off len=true)(hn:n<len):off+len<=e.length:=by
 have q:=Qgm h (n:=len-1) (by omega)
 by_cases hc:off+(len-1)<e.length
 ·omega
 ·rw[aK,aM (by omega)]at q;cases q
theorem Qwi{e:List D}{off len n:Nat}(h:Qh4 e off len=true)(hn:n<len):off+len<=e.length:=by
 have q:=Qdl h (n:=len-1) (by omega)
 by_cases hc:off+(len-1)<e.length
 ·omega
 ·rw[aK,aM (by omega)]at q;cases q
theorem Z5u{P:Program}{T:Tab}(hT:Q34 P T){t:TypeId}{ti:TI}(ht:T.get t=some ti){e:List D}{off len:Nat}{k:Option IntKind}{n:Nat}{d:D}{K:List D->Prop}(h:Z6y ti e off len k n d K):
 ∃xs,K xs/\d.isVal=true/\d.cells=[d]/\d.plain=true/\ti.size=1/\(n<len->off+len<=e.length/\xs=Q2d e (off+n) [d]):=by
 unfold Z6y at h
 split at h
 ·rename_i j k' k'' v hk
  simp only[Q02,aE,decide_eq_true_eq]at h
  obtain⟨⟨⟨rfl,rfl⟩,hall⟩,h⟩:=h
  exact⟨_,h,rfl,rfl,rfl,Qtq (hT.get ht) (by rw[hk];simp[TK.isAgg]),λhn=>⟨Z0c hall hn,zad hall (Z0c hall hn) hn⟩⟩
 ·rename_i v hk
  simp only[Q02]at h
  obtain⟨hall,h⟩:=h
  exact⟨_,h,rfl,rfl,rfl,Qtq (hT.get ht) (by rw[hk];simp[TK.isAgg]),λhn=>⟨Qwi hall hn,zW hall (Qwi hall hn) hn⟩⟩
 ·exact h.elim
theorem Zb4{P:Program}{T:Tab}(hT:Q34 P T){t:TypeId}{x d:D}{R:Rows}{K:D->Rows->Prop}(h:Qjx T t x d R K):
    ∃R',K .dead R'/\ ∀c w a v,Mem c w->(∀r,c.R r=R.getD r none)->Rep c w x a->Rep c w d v->Wrote P (Instr.storeAt t a v) w c R':=by
  unfold Qjx at h
  cases ht:T.get t with
  |none=>simp only[ht]at h
  | some ti =>
    simp only[ht]at h
    obtain⟨i0,hi0,hs0,_,hl0,hk0,_⟩:=Q7k (hT.get ht)
    have hcells:P.cellsOf t=ti.size:=by simp [Program.cellsOf,hi0,hs0]
    cases x<;>simp only at h
    case ptr r i off=>
      cases hR:R.getD r none with
      |none=>simp only[hR]at h
      | some row=>
        obtain⟨box,ty,sz,es⟩:=row
        simp only[hR,Q02,aE]at h
        obtain⟨⟨⟨⟨h0,hv⟩,hn⟩,hle⟩,h⟩:=h
        have h0:0<ti.size:=lE h0
        have hn:=bE hn
        have hle:=lE hle
        have go: ∀es':Els,(box=false->d.cells.all D.plain=true)-> ∀c w a v,Mem c w->(∀r,c.R r=R.getD r none)->Rep c w (.ptr r i off) a->Rep c w d v->
            (∃row:Row,c.R r=some row/\row=⟨box,ty,sz,es⟩/\ ¬c.V r/\i<es.l.length)/\(es'.l=es.l.set i (Q2d (es.l.getD i []) off d.cells)->(box=true->es'= .gen [Q2d (es.get i) off d.cells])->Wrote P (Instr.storeAt t a v) w c (R.set r (some ⟨box,ty,sz,es'⟩))):=by
          intro es' hp c w a v hm hA ha hd
          obtain⟨row,g1,gV,g2,ha⟩:=ha
          have hrow:row=⟨box,ty,sz,es⟩:=by rw[hA,hR]at g1;exact(Option.some.inj g1).symm
          subst hrow
          subst ha
          exact⟨⟨_,g1,rfl,gV,g2⟩,λhe hbx=>Z3b hcells h0 hR hv hn hle hp hm hA gV g2 he hbx hd⟩
        cases box with
        | true=>
          simp only[D.forceL_iff,Q1h]at h
          refine⟨_,h,λc w a v hm hA ha hd=> ?_⟩
          obtain⟨⟨row,g1,hrow,gV,g2⟩,hw⟩:=go (.gen [Q2d (es.get i) off d.cells]) (by simp) c w a v hm hA ha hd
          subst hrow
          obtain⟨old,ho,hs,hb⟩:=hm.real g1 gV
          simp only[if_true]at hb
          obtain⟨e,k1,k2,k3,k4⟩:=hb
          have hget:=Els.get_l es (show i<es.len by simpa using g2)
          refine hw ?_ (λ_=>rfl)
          rw[<-hget,k1]
          rw[k1]at g2
          have hi0:i=0:=by simpa [Els.l] using g2
          subst hi0
          rfl
        | false=>
          simp only[Q1h]at h
          refine⟨_,h.2,λc w a v hm hA ha hd=> ?_⟩
          obtain⟨⟨row,g1,hrow,gV,g2⟩,hw⟩:=go _ (λ_=>h.1) c w a v hm hA ha hd
          exact hw (by rw[Els.set_l,Els.get_l es (show i<es.len by simpa using g2)]) (by simp)
    case pa r i off len k n=>
      cases hR:R.getD r none with
      |none=>simp only[hR]at h
      | some row=>
        obtain⟨box,ty,sz,es⟩:=row
        simp only[hR,Q02]at h
        obtain⟨hle,h⟩:=h
        have hle:=lE hle
        obtain⟨xs,h,hv,hc,hp,hsz,heq⟩:=Z5u hT ht h
        cases box with
        | true=>
          simp only[D.forceL_iff,Q1h]at h
          refine⟨_,h,λc w a v hm hA ha hd=> ?_⟩
          obtain⟨hn,row,g1,gV,g2,ha⟩:=ha
          have hrow:row=⟨true,ty,sz,es⟩:=by rw[hA,hR]at g1;exact(Option.some.inj g1).symm
          subst hrow
          subst ha
          obtain⟨old,ho,hs,hb⟩:=hm.real g1 gV
          simp only[if_true]at hb
          obtain⟨e,k1,k2,k3,k4⟩:=hb
          simp only at g2
          have hget:=Els.get_l es (show i<es.len by simpa using g2)
          obtain⟨hlen,he⟩:=heq hn
          refine Z3b (off:=off+n) hcells (by omega) hR hv (by rw[hc,hsz];rfl) (by omega) (by simp) hm hA gV g2 ?_ (λ_=>by rw[hc,he]) hd
          rw[hget,hc,he]
          rw[k1]at g2⊢
          have hi0:i=0:=by simpa [Els.l] using g2
          subst hi0
          rfl
        | false=>
          simp only[Q1h]at h
          refine⟨_,h,λc w a v hm hA ha hd=> ?_⟩
          obtain⟨hn,row,g1,gV,g2,ha⟩:=ha
          have hrow:row=⟨false,ty,sz,es⟩:=by rw[hA,hR]at g1;exact(Option.some.inj g1).symm
          subst hrow
          subst ha
          simp only at g2
          have hget:=Els.get_l es (show i<es.len by simpa using g2)
          obtain⟨hlen,he⟩:=heq hn
          refine Z3b (off:=off+n) hcells (by omega) hR hv (by rw[hc,hsz];rfl) (by omega) (λ_=>by rw[hc];simp [hp]) hm hA gV g2 ?_ (by simp) hd
          rw[Els.set_l,hget,hc,he]
def sv:D->Value
 |.int k n=>.int k n
 |.bool b=>.bool b
 |.str s=>.string ⟨s.toArray⟩
 |_=>undef
def Seg(xs:Array Value)(o:Nat)(az:List D):Prop:=∀j d,az[j]?=some d->xs[o+j]?=some (sv d)
theorem Qer:∀{t u:List CTy} {l:List D},fits (t++u) l=true->∃a b,l=a++b/\fits t a=true/\fits u b=true/\a.length=t.length
 |[],u,l,h=>⟨[],l,rfl,rfl,h,rfl⟩
 |c::t,u,[],h=>by cases c<;>simp[fits]at h
 |c ::t,u,d::l,h=>by
  cases c<;>simp only[cF,fits,aE,aN]at h
  all_goals
   obtain⟨a,b,h1,h2,h3,h4⟩:=Qer h.2
   exact⟨d::a,b,by rw[h1];rfl,by simp[fits,h.1,h2],h3,by simp[h4]⟩
theorem Q24:∀{t:List CTy} {l:List D},fits t l=true->l.length=t.length
 |[],[],_=>rfl
 |[],_::_,h=>by simp[fits]at h
 |c::t,[],h=>by cases c<;>simp[fits]at h
 |c::t,d::l,h=>by
  cases c<;>simp only[fits,aE,aN]at h
  all_goals simp[Q24 h.2]
theorem Qos:∀{a b a' b':List D},a.length=b.length->eqs (a++a') (b++b')=(eqs a b&&eqs a' b')
 |[],[],_,_,_=>by simp[eqs]
 |x::a,y::b,a',b',h=>by
  simp only[cF,eqs]
  rw[Qos (by simpa using h),Bool.and_assoc]
theorem Q4q{P:Program}{t:TypeId}{d:TypeDesc}(hd:P.underlying t=some d)(ha:Qx0 d=false){xs:Array Value}{o:Nat}{v:Value}(hv:xs[o]?=some v)(w:World):(part t xs o).run P w=.ok v w:=by
 unfold part
 rw[Sem.run_bind,Qx9 hd,Qb5 hd,ha,Result.andThen_ok]
 simp[hv]
theorem Qfv{P:Program}{t:TypeId}{d:TypeDesc}(hd:P.underlying t=some d)(ha:Qx0 d=true)(h0:0<P.cellsOf t)(xs:Array Value)(o:Nat)(w:World):
 (part t xs o).run P w=.ok (.agg (xs.extract o (o+P.cellsOf t))) w:=by
 unfold part
 rw[Sem.run_bind,Qx9 hd,Qb5 hd,ha,Result.andThen_ok]
 simp only[if_true,Sem.run_bind,Q88 h0,Result.andThen_ok,Sem.run_pure]
theorem Seg.extract{xs:Array Value}{o:Nat}{az:List D}{n:Nat}(h:Seg xs o az)(hn:az.length<=n):Seg (xs.extract o (o+n)) 0 az:=by
 intro j d hj
 have hlt:=(List.getElem?_eq_some_iff.1 hj).1
 have:=h j d hj
 have hx:=(Array.getElem?_eq_some_iff.1 this).1
 simp only[aX,Array.getElem?_extract]
 rw[if_pos (by omega)]
 exact this
theorem Seg.left{xs:Array Value}{o:Nat}{a b:List D}(h:Seg xs o (a++b)):Seg xs o a:=λj d hj=>h j d (by rw[aZ (List.getElem?_eq_some_iff.1 hj).1];exact hj)
theorem Seg.right{xs:Array Value}{o:Nat}{a b:List D}(h:Seg xs o (a++b)):Seg xs (o+a.length) b:=λj d hj=>by
 rw[fO];exact h (a.length+j) d (by rw[bB (by omega)];simpa using hj)
def cmpT(t:TypeId)(m:Nat)(xs ys:Array Value)(o:Nat):Sem Bool:=do
 let a<-part t xs o
 let b<-part t ys o
 Op.equalIn m t a b
theorem Qzh{P:Program}{n m:Nat}(ih:∀t,eqOf P n t=true->P.cellsOf t=(Q4b P n t).length->0<P.cellsOf t->∀(xs ys:Array Value) (o:Nat) (az bs:List D) (w:World),fits (Q4b P n t) az=true->fits (Q4b P n t) bs=true->Seg xs o az->Seg ys o bs->
 (cmpT t m xs ys o).run P w=.ok (eqs az bs) w):
 ∀ (fs:List Field) (o:Nat) (az bs:List D) (xs ys:Array Value) (w:World),Z9m P (eqOf P n) (λu=>(Q4b P n u).length) fs o=true->fits (fs.flatMap λf=>Q4b P n f.type) az=true->fits (fs.flatMap λf=>Q4b P n f.type) bs=true->
  Seg xs o az->Seg ys o bs->(Op.eqFields m xs ys fs).run P w=.ok (eqs az bs) w
 |[],o,az,bs,xs,ys,w,_,ha,hb,_,_=>by
  have h1:=Q24 ha
  have h2:=Q24 hb
  simp at h1 h2
  subst h1;subst h2
  simp[Op.eqFields,eqs]
 |f ::fs,o,az,bs,xs,ys,w,ho,ha,hb,sa,sb=>by
  simp only[Z9m,aE]at ho
  obtain⟨⟨⟨⟨⟨h1,h2⟩,h3⟩,h4⟩,h5⟩,h6⟩:=ho
  have h2:=bE h2
  have h3:=bE h3
  have h4:0<(Q4b P n f.type).length:=lE h4
  simp only[List.flatMap_cons]at ha hb
  obtain⟨a1,a2,rfl,fa1,fa2,la⟩:=Qer ha
  obtain⟨b1,b2,rfl,fb1,fb2,lb⟩:=Qer hb
  have hone:=ih f.type h5 h3 (by omega) xs ys o a1 b1 w fa1 fb1 sa.left sb.left
  have hrest:=Qzh ih fs (o+(Q4b P n f.type).length) a2 b2 xs ys w h6 fa2 fb2 (by rw[<-la];exact sa.right) (by rw[<-lb];exact sb.right)
  have hne:f.name≠ "_" :=by simpa using h1
  simp only[Op.eqFields,hne,ne_eq,not_false_eq_true,if_true,h2]
  unfold cmpT at hone
  rw[Qos (by omega)]
  rw[Sem.run_bind]at hone⊢
  cases hp:(part f.type xs o).run P w with
  |halt x w1=>rw[hp]at hone;simp at hone
  |ok a w1=>
   rw[hp]at hone
   simp only[Result.andThen_ok,Sem.run_bind]at hone⊢
   cases hq:(part f.type ys o).run P w1 with
   |halt x w2=>rw[hq]at hone;simp at hone
   |ok b w2=>
    rw[hq]at hone
    simp only[Result.andThen_ok]at hone⊢
    rw[hone]
    simp only[Result.andThen_ok]
    cases he:eqs a1 b1 with
    |true=>simpa[he]using hrest
    |false=>simp
theorem Z6d{P:Program}{n m:Nat}{e:TypeId}{k:Nat}(hk:P.cellsOf e=k)(hl:(Q4b P n e).length=k)(ih:∀(xs ys:Array Value) (o:Nat) (az bs:List D) (w:World),fits (Q4b P n e) az=true->fits (Q4b P n e) bs=true->Seg xs o az->Seg ys o bs->
 (cmpT e m xs ys o).run P w=.ok (eqs az bs) w):
 ∀ (len i:Nat) (az bs:List D) (xs ys:Array Value) (w:World),fits (gA len (Q4b P n e)).flatten az=true->fits (gA len (Q4b P n e)).flatten bs=true->Seg xs (i*k) az->Seg ys (i*k) bs->
  (do
   let r<-forIn (List.range' i len) ((none,()):Option Bool×Unit) λj _=>do
    let a<-part e xs (j*k)
    let b<-part e ys (j*k)
    let q<-Op.equalIn m e a b
    if(!q)=true then pure (ForInStep.done (some false,()))else pure (ForInStep.yield (none,()))
   match r.1 with
   |some a=>pure a
   |none=>pure true:Sem Bool).run P w=.ok (eqs az bs) w
 |0,i,az,bs,xs,ys,w,ha,hb,_,_=>by
  have h1:=Q24 ha
  have h2:=Q24 hb
  simp at h1 h2
  subst h1;subst h2
  simp[eqs]
 |len + 1,i,az,bs,xs,ys,w,ha,hb,sa,sb=>by
  simp only[List.replicate_succ,List.flatten_cons]at ha hb
  obtain⟨a1,a2,rfl,fa1,fa2,la⟩:=Qer ha
  obtain⟨b1,b2,rfl,fb1,fb2,lb⟩:=Qer hb
  have hone:=ih xs ys (i*k) a1 b1 w fa1 fb1 sa.left sb.left
  have hrest:=Z6d hk hl ih len (i+1) a2 b2 xs ys w fa2 fb2 (by rw[aW];have:=sa.right;rwa [la,hl]at this) (by rw[aW];have:=sb.right;rwa [lb,hl]at this)
  unfold cmpT at hone
  rw[Qos (by omega)]
  simp only[List.range'_succ,List.forIn_cons,Sem.run_bind]at hone⊢
  cases hp:(part e xs (i*k)).run P w with
  |halt x w1=>rw[hp]at hone;simp at hone
  |ok a w1=>
   rw[hp]at hone
   simp only[Result.andThen_ok]at hone⊢
   cases hq:(part e ys (i*k)).run P w1 with
   |halt x w2=>rw[hq]at hone;simp at hone
   |ok b w2=>
    rw[hq]at hone
    simp only[Result.andThen_ok]at hone⊢
    rw[hone]
    simp only[Result.andThen_ok]
    cases he:eqs a1 b1 with
    |true=>
     simp only[Sem.run_bind]at hrest
     simpa[he]using hrest
    |false=>simp
theorem Z76{P:Program}:∀(n:Nat) (t:TypeId) (m:Nat),n<=m->eqOf P n t=true->P.cellsOf t=(Q4b P n t).length->0<P.cellsOf t->∀(xs ys:Array Value) (o:Nat) (az bs:List D) (w:World),
 fits (Q4b P n t) az=true->fits (Q4b P n t) bs=true->Seg xs o az->Seg ys o bs->(cmpT t m xs ys o).run P w=.ok (eqs az bs) w
 |0,t,m,_,h,_,_,_,_,_,_,_,_,_,_,_,_=>by simp[eqOf]at h
 |n+1,t,0,hm,_,_,_,_,_,_,_,_,_,_,_,_,_=>by omega
 |n + 1,t,m+1,hm,h,hc,h0,xs,ys,o,az,bs,w,ha,hb,sa,sb=>by
  unfold eqOf at h
  split at h
  ·rename_i k hd
   simp only[Q4b,hd]at ha hb
   have h1:=Q24 ha;have h2:=Q24 hb
   obtain⟨x,rfl⟩:=List.length_eq_one_iff.1 h1
   obtain⟨y,rfl⟩:=List.length_eq_one_iff.1 h2
   simp only[fits,gB]at ha hb
   have hx:=sa 0 x rfl;have hy:=sb 0 y rfl
   rw[D.isInt_eq ha]at hx⊢
   rw[D.isInt_eq hb]at hy⊢
   simp only[sv,bH]at hx hy
   simp only[cmpT,Sem.run_bind,Q4q hd rfl hx,Q4q hd rfl hy,Result.andThen_ok,run_equalIn_int w m t k k _ _ hd,eqs,eq1,gB]
  ·rename_i hd
   simp only[Q4b,hd]at ha hb
   have h1:=Q24 ha;have h2:=Q24 hb
   obtain⟨x,rfl⟩:=List.length_eq_one_iff.1 h1
   obtain⟨y,rfl⟩:=List.length_eq_one_iff.1 h2
   simp only[fits,gB]at ha hb
   have hx:=sa 0 x rfl;have hy:=sb 0 y rfl
   rw[D.isBool_eq ha]at hx⊢
   rw[D.isBool_eq hb]at hy⊢
   simp only[sv,bH]at hx hy
   simp only[cmpT,Sem.run_bind,Q4q hd rfl hx,Q4q hd rfl hy,Result.andThen_ok,run_equalIn_bool' w m t _ _ hd,eqs,eq1,gB]
  ·rename_i hd
   simp only[Q4b,hd]at ha hb
   have h1:=Q24 ha;have h2:=Q24 hb
   obtain⟨x,rfl⟩:=List.length_eq_one_iff.1 h1
   obtain⟨y,rfl⟩:=List.length_eq_one_iff.1 h2
   simp only[fits,gB]at ha hb
   have hx:=sa 0 x rfl;have hy:=sb 0 y rfl
   cases x<;>simp[D.isStr]at ha
   cases y<;>simp[D.isStr]at hb
   rename_i s u
   simp only[sv,bH]at hx hy
   simp only[cmpT,Sem.run_bind,Q4q hd rfl hx,Q4q hd rfl hy,Result.andThen_ok,run_equalIn_string w m t _ _ hd,eqs,eq1,gB,ByteArray.toList_mk]
   congr 1
   rw[fS];simp
  ·rename_i fs hd
   simp only[aE,Bool.not_eq_true']at h
   have hf:P.fieldsOf t=fs:=by simp[Program.fieldsOf,hd]
   have hl:=Q24 ha
   have hl':=Q24 hb
   simp only[Q4b,hd]at ha hb
   simp only[cmpT,Sem.run_bind,Qfv hd rfl h0,Result.andThen_ok]
   rw[run_equalIn_struct w m t _ _ (by rw[hf];exact hd) h.1,hf]
   refine Qzh (n:=n) (λu hu hcu h0u xs ys o az bs w=>Z76 n u m (by omega) hu hcu h0u xs ys o az bs w) fs.toList 0 az bs _ _ w h.2 ha hb (sa.extract (by omega)) (sb.extract (by omega))
  ·rename_i len e hd
   simp only[aE]at h
   obtain⟨⟨h1,h2⟩,h3⟩:=h
   have h1:=bE h1
   have h2:0<P.cellsOf e:=lE h2
   have hl:=Q24 ha
   have hl':=Q24 hb
   simp only[Q4b,hd]at ha hb
   simp only[cmpT,Sem.run_bind,Qfv hd rfl h0,Result.andThen_ok]
   have:=Z6d (P:=P) (n:=n) (m:=m) (e:=e) rfl h1.symm (λxs ys o az bs w=>Z76 n e m (by omega) h3 h1 h2 xs ys o az bs w) len 0 az bs (xs.extract o (o+P.cellsOf t)) (ys.extract o (o+P.cellsOf t)) w ha hb
    (by rw[fZ];exact sa.extract (by omega)) (by rw[fZ];exact sb.extract (by omega))
   rw[<-this]
   simp only[Op.equalIn,Sem.run_bind,run_underlying hd,Result.andThen_ok,Q88 h2,Std.Legacy.Range.forIn_eq_forIn_range',Std.Legacy.Range.size,fU,Nat.add_sub_cancel,Nat.div_one]
   congr 1
   funext r w'
   obtain⟨f,u⟩:=r
   cases f<;>rfl
  ·cases h
theorem Q81:∀{vs:List Value} {ds:List D},Qi9 vs=some ds->ds.length=vs.length
 |[],ds,h=>by simp[Qi9]at h;subst h;rfl
 |v ::vs,ds,h=>by
  simp only[Qi9]at h
  split at h
  ·rename_i d l h1 h2
   simp at h;subst h
   simp[Q81 h2]
  ·cases h
theorem Qp1{I:Blocks}{w:World}{z:List D}{zs:Array Value}{sz n m:Nat}(hz:z.length=sz)(hs:zs.size=sz)(hr:∀j v,zs[j]?=some v->PRep I w (z.getD j .dead) v)(hm:n<=m):
 Q15 I w (gA n z) (madeCells zs (m*sz)) 0 sz:=by
 rw[Q2u]
 intro i hi
 have hi':i<n:=by simpa using hi
 have he:(gA n z).getD i []=z:=by simp[aK,hi']
 rw[he]
 refine⟨hz,?_⟩
 rw[Q31]
 intro j hj
 have hlt:i*sz+j<m*sz:=by
  have:=aV sz (show i+1<=m by omega)
  rw[aW]at this
  omega
 have hmod:(i*sz+j)%sz=j:=by rw[Nat.add_comm,Nat.add_mul_mod_self_right,Nat.mod_eq_of_lt (by omega)]
 have hj':j<zs.size:=by omega
 refine⟨zs[j],?_,hr j _ (Array.getElem?_eq_getElem hj')⟩
 have hrg:(gC (m*sz))[i*sz+j]?=some (i*sz+j):=by rw[Array.getElem?_range,if_pos hlt]
 simp only[madeCells,aX,Array.getElem?_map,hrg,Option.map_some,hs,hmod]
 simp[hj']
theorem Qq4{z:List D}{u:Value}(h:Qi9 u.cells.toList=some z)(hp:z.all D.plain=true)(c:Ctx)(w:World):∀j v,u.cells[j]?=some v->PRep c.I w (z.getD j .dead) v:=by
 intro j v hv
 have hr:=Qbb h c w
 have hl:=hr.length
 have h1:u.cells.toList[j]?=some v:=by simpa using hv
 have hlt:j<z.length:=by rw[hl];exact(List.getElem?_eq_some_iff.1 h1).1
 refine CRep.plain ?_ ((Q97.1 hr).2 j v h1)
 have hm:z.getD j .dead∈z:=by
  simp only[aK,cI hlt,aG]
  exact eK _
 exact List.all_eq_true.1 hp _ hm
theorem Qwt{c:Ctx}{w:World}{k:Nat}{e:TypeId}{sz cap:Nat}{es:Els}{arr:Array Value}(h1:es.l.length<=cap)(h2:cap<=maxLen)(h3:cap*sz=arr.size):
 Rep (c.add k ⟨false,e,sz,es⟩ w.heap.size) (w.alloc (.cells arr e)) (.all k) (.slice (some ⟨w.heap.size,0,none⟩) es.l.length cap):=by
 refine⟨_,(Ctx.add_self _ _ _ _).1,rfl,.inr ⟨by simp[Ctx.add],cap,arr,?_,h1,h2,?_,h3⟩⟩
 ·rw[(Ctx.add_self _ _ _ _).2]
 ·rw[(Ctx.add_self _ _ _ _).2];exact Qnm w _
theorem vm{P:Program}{T:Tab}(hT:Q34 P T){t:TypeId}{kl kc:IntKind}{n m:Int}{R:Rows}{K:D->Rows->Prop}(h:makeVC T t n m R K):
 ∃row val,K val (R++[some row])/\∀c w,Z3y P (Instr.makeSlice t (.int kl n) (.int kc m)) w c R.length row val:=by
 unfold makeVC at h
 split at h
 ·rename_i e _ _ _ _ _ _ ht
  have hk:=Q1q hT ht
  simp only at hk
  split at h
  ·rename_i kk sz by' cs z q he
   simp only[Q02,aE,decide_eq_true_eq,Qkk]at h
   obtain⟨⟨⟨⟨h0,hz⟩,hp⟩,g0,g1,g2,g3⟩,h⟩:=h
   have h0:0<sz:=lE h0
   have hz:=bE hz
   obtain⟨i,u,hi,hu,hzz,hs,hb,hc,hzero⟩:=Qbu hT he
   refine⟨_,_,h,λc w=>?_⟩
   have hr:=run_make (P:=P) w t e i u hk.1 hi hu kl kc n m g0 g1 (by rw[hb];omega) g2
   rw[hs]at hr
   have hus:u.cells.size=sz:=by have:=Q81 hzz;simp at this;omega
   refine⟨_,_,hr,⟨h0,?_⟩,λ_ _=>?_⟩
   ·simp only[aN,if_false,Els.repT_l]
    exact Qp1 (n:=n.toNat) (m:=m.toNat) hz hus (Qq4 hzz hp c w) (by omega)
   ·have:=Qwt (c:=c) (w:=w) (k:=R.length) (e:=e) (sz:=sz) (cap:=m.toNat) (es:=Els.repT e n.toNat z) (arr:=madeCells u.cells (m.toNat*sz)) (by rw[Els.repT_l];simp;omega) (by unfold maxLen;omega) (by simp[madeCells])
    rw[Els.repT_l]at this
    simpa using this
  ·exact h.elim
 ·exact h.elim
theorem xn{c:Ctx}{w:World}{d:D}{v:Value}(h:CRep c w d v):CRep c w d.unfr v:=by
 cases d with
 |sl sz es fr=>
  obtain⟨a,cap,hv,hc,h⟩:=h
  refine⟨a,cap,hv,hc,?_⟩
  rcases h with h|⟨b,off,arr,ty,fz,h1,h2,h3,h4⟩
  ·exact .inl h
  ·exact .inr ⟨b,off,arr,ty,fz,h1,h2,(λe=>by cases e),h4⟩
 |_=>exact h
theorem Z06{c:Ctx}{w:World}:∀{ds:List D} {vs:List Value},Q2y c w ds vs->Q2y c w (Z48 ds) vs
 |[],[],_=>trivial
 |d::ds,v::vs,h=>⟨xn h.1,Z06 h.2⟩
 |[],_::_,h=>h.elim
 |_::_,[],h=>h.elim
theorem Quc{n len:Nat}(h0:0<n){ev:Operand->D}:∀{parts:List (Nat×Operand)} {es:List (List D)} {K:List (List D)->Prop},es.length=len->Qop n len ev parts es K->
 ∃ es',K es'/\es'.length=len/\∀c w (ρ:Operand->Value) (cells:Array Value),cells.size=len*n->Q15 c.I w es cells 0 n->(∀p∈parts,Rep c w (ev p.2) (ρ p.2))->
  ∃cells',Instr.fill (λi=>some (i*n,n)) cells (parts.map λp=>(p.1,ρ p.2))=some cells'/\cells'.size=len*n/\Q15 c.I w es' cells' 0 n
 |[],es,K,hl,h=>⟨es,h,hl,λc w ρ cells hs he _=>⟨cells,rfl,hs,he⟩⟩
 |(i,x)::ps,es,K,hl,h=>by
  unfold Qop at h
  simp only[Q02,aE]at h
  obtain⟨⟨⟨⟨hv,hp⟩,hn⟩,hi⟩,h⟩:=h
  have hn:=bE hn
  have hi:i<len:=lE hi
  obtain⟨es',hK,hl',hr⟩:=Quc h0 (by simpa using hl) h
  refine⟨es',hK,hl',λc w ρ cells hs he hps=>?_⟩
  have hx:=Z06 (Rep.cells hv (hps (i,x) (by simp)))
  have hlen:(ρ x).cells.size=n:=by rw[<-hn,hx.length];simp
  have hroom:i*n+n<=cells.size:=by
   have:=aV n (show i+1<=len by omega)
   rw[aW]at this
   omega
  have hw:=Qr3 (c:=c) (w:=w) (es:=es) (arr:=cells.toList) (off:=0) (i:=i) (by simpa using he) (by omega) (by omega) hx hp (by simpa using hroom)
  have hover:Q2d (es.getD i []) 0 (Z48 (ev x).cells)=Z48 (ev x).cells:=by
   have hel:=(Q2u.1 he i (by omega)).1
   apply cN
   intro k
   rw[Q7j (by omega)]
   by_cases hk:k<(Z48 (ev x).cells).length
   ·rw[if_pos (by omega)];simp
   ·rw[if_neg (by omega),aM (by omega),aM (by omega)]
  rw[hover]at hw
  have hcells:(Q33 cells.toList (i*n+0) (ρ x).cells.toList).toArray=(ρ x).cells.zipIdx.foldl (λcs (x:Value×Nat)=>cs.setIfInBounds (i*n+x.2) x.1) cells:=by
   rw[bH,<-Z5k (ρ x) (i*n) cells]
  rw[hcells]at hw
  obtain⟨cells',k1,k2,k3⟩:=hr c w ρ _ (by rw[<-hcells];simp[Qao,hs]) hw (λp hp=>hps p (by simp[hp]))
  refine⟨cells',?_,k2,k3⟩
  simp only[eJ,Instr.fill]
  rw[if_neg (by simp;omega)]
  exact k1
theorem Z0o{n len:Nat}{ev:Operand->D}:∀{parts:List (Nat×Operand)} {es:List (List D)} {K:List (List D)->Prop},Qop n len ev parts es K->
 ∃es',K es'/\∀(ev2:Operand->D) (K2:List (List D)->Prop),(∀p∈parts,ev2 p.2=ev p.2)->K2 es'->Qop n len ev2 parts es K2
 |[],es,K,h=>⟨es,h,λev2 K2 _ h2=>h2⟩
 |(i,x)::ps,es,K,h=>by
  unfold Qop at h
  simp only[Q02]at h
  obtain⟨es',h1,h2⟩:=Z0o h.2
  refine⟨es',h1,λev2 K2 he hk=>?_⟩
  unfold Qop
  rw[he (i,x) (by simp)]
  simp only[Q02]
  exact⟨h.1,h2 ev2 K2 (λp hp=>he p (by simp[hp])) hk⟩
theorem Z8{T:Tab}{t:TypeId}{len:Nat}{parts:List (Nat×Operand)}{ev:Operand->D}{R:Rows}{K:D->Rows->Prop}(h:Qgf T t len parts ev R K):
 ∃val,K val R/\∀(ev2:Operand->D) (R2:Rows),(∀p∈parts,ev2 p.2=ev p.2)->Qgf T t len parts ev2 R2 λd R'=>d=val/\R'=R2:=by
 unfold Qgf at h⊢
 split at h
 ·split at h
  ·simp only[Q02]at h⊢
   obtain⟨h0,h⟩:=h
   obtain⟨es',hK,hd⟩:=Z0o h
   cases len with
   |zero=>exact⟨_,hK,λev2 R2 hev=>⟨h0,hd ev2 _ hev (by simp)⟩⟩
   |succ m=>exact⟨_,hK,λev2 R2 hev=>⟨h0,hd ev2 _ hev (by simp)⟩⟩
  ·exact h.elim
 ·exact h.elim
theorem Zbg{P:Program}{T:Tab}(hT:Q34 P T){t:TypeId}{len:Nat}{parts:List (Nat×Operand)}{ev:Operand->D}{R:Rows}{K:D->Rows->Prop}(h:Qgf T t len parts ev R K):
    ∃val,K val R/\ ∀c w (ρ:Operand->Value),c.base<=w.heap.size->(∀p∈parts,Rep c w (ev p.2) (ρ p.2))-> ∃u arr ty,(Instr.buildSlice t len (parts.map λp=>(p.1,ρ p.2)).toArray).run P w= .ok u (w.alloc (.cells arr ty))/\(Mem c w->Rep (c.imm w.heap.size) (w.alloc (.cells arr ty)) val u):=by
  unfold Qgf at h
  split at h
  . rename_i e _ _ _ _ _ _ ht
    have hk:=Q1q hT ht
    simp only at hk
    split at h
    . rename_i kk sz by' cs z q he
      simp only[Q02,aE]at h
      obtain⟨⟨⟨⟨h0,hz⟩,hle⟩,hp⟩,h⟩:=h
      have h0:0<sz:=lE h0
      have hz:=bE hz
      have hle:=lE hle
      obtain⟨i,u,hi,hu,hzz,hs,hb,hc,hzero⟩:=Qbu hT he
      obtain⟨es',hK,hl',hr⟩:=Quc h0 (by simp) h
      have hus:u.cells.size=sz:=by have:=Q81 hzz;simp at this;omega
      have main: ∀c w (ρ:Operand->Value),(∀p∈parts,Rep c w (ev p.2) (ρ p.2))-> ∃cells',(Instr.buildSlice t len (parts.map λp=>(p.1,ρ p.2)).toArray).run P w= .ok (.slice (some ⟨w.heap.size,0,none⟩) len len) (w.alloc (.cells cells' e))/\Q15 c.I w es' cells' 0 sz:=by
        intro c w ρ hps
        have hel:=Qp1 (I:=c.I) (w:=w) hz hus (Qq4 hzz hp c w) (aO len)
        obtain⟨cells',k1,k2,k3⟩:=hr c w ρ (madeCells u.cells (len*sz)) (by simp [madeCells]) hel hps
        refine⟨cells',?_,k3⟩
        have hbig: ¬len*sz>2^24:=by omega
        have hcs:0<P.cellsOf e:=by omega
        unfold Instr.buildSlice
        simp only[Sem.run_bind,run_underlying hk.1,Result.andThen_ok,Q88 hcs,hc,Sem.run_ite,hbig,if_false,Sem.run_pure]
        by_cases hz0:len*sz=0
        . have hk1:Instr.fill (λi=>some (i*sz,sz)) ((gC (len*sz)).map λx=>(#[]:Array Value)[x%(#[]:Array Value).size]!) (parts.map λp=>(p.1,ρ p.2))=some cells':=by
            rw[<-k1];congr 1
            rw[hz0];simp [madeCells]
          simp only[hz0,if_true]at hk1⊢
          rw[hk1]
          simp only[newRow,Sem.run_bind,run_newObj,Result.andThen_ok,Sem.run_pure]
          rfl
        . simp only[hz0,if_false,hzero,Result.andThen_ok]
          rw[show Instr.fill (λi=>some (i*sz,sz)) ((gC (len*sz)).map λx=>u.cells[x%u.cells.size]!) (parts.map λp=>(p.1,ρ p.2))=some cells' from k1]
          simp only[newRow,Sem.run_bind,run_newObj,Result.andThen_ok,Sem.run_pure]
          rfl
      cases len with
      | zero=>
        refine⟨_,hK,λc w ρ _ hps=> ?_⟩
        obtain⟨cells',h1,_⟩:=main c w ρ hps
        exact⟨_,cells',e,h1,λ_=>⟨_,rfl,λx hx=>by cases hx;exact Nat.lt_of_lt_of_le (Nat.lt_succ_self _) (Nat.le_max_right _ _)⟩⟩
      | succ m=>
        refine⟨_,hK,λc w ρ hbase hps=> ?_⟩
        obtain⟨cells',h1,h2⟩:=main c w ρ hps
        refine⟨_,cells',e,h1,λhm=> ?_⟩
        refine⟨some ⟨w.heap.size,0,none⟩,m+1,by rw[Els.ofT_l,hl'],by rw[Els.ofT_l,hl'];exact aO _, .inr ⟨w.heap.size,0,cells',e,(0,0),rfl, .inr rfl,λ_=>hbase,Qnm w _,?_⟩⟩
        rw[Els.ofT_l]
        exact Q11 (Qoq hm _).I _ _ _ _ h2
    . exact h.elim
  . exact h.elim
theorem Z7i{P:Program}{T:Tab}(hT:Q34 P T){t:TypeId}{len:Nat}{parts:List (Nat×Operand)}{ev:Operand->D}{R:Rows}{K:D->Rows->Prop}(h:Qqo T t len parts ev R K):
    ∃row val,K val (R++[some row])/\ ∀c w (ρ:Operand->Value),(∀p∈parts,Rep c w (ev p.2) (ρ p.2))->Z3y P (Instr.buildSlice t len (parts.map λp=>(p.1,ρ p.2)).toArray) w c R.length row val:=by
  unfold Qqo at h
  split at h
  . rename_i e _ _ _ _ _ _ ht
    have hk:=Q1q hT ht
    simp only at hk
    split at h
    . rename_i kk sz by' cs z q he
      simp only[Q02,aE]at h
      obtain⟨⟨⟨⟨h0,hz⟩,hle⟩,hp⟩,h⟩:=h
      have h0:0<sz:=lE h0
      have hz:=bE hz
      have hle:=lE hle
      obtain⟨i,u,hi,hu,hzz,hs,hb,hc,hzero⟩:=Qbu hT he
      obtain⟨es',hK,hl',hr⟩:=Quc h0 (by simp) h
      rw[Qkk]at hK
      have hus:u.cells.size=sz:=by have:=Q81 hzz;simp at this;omega
      have main: ∀c w (ρ:Operand->Value),(∀p∈parts,Rep c w (ev p.2) (ρ p.2))-> ∃cells',(Instr.buildSlice t len (parts.map λp=>(p.1,ρ p.2)).toArray).run P w= .ok (.slice (some ⟨w.heap.size,0,none⟩) len len) (w.alloc (.cells cells' e))/\Q15 c.I w es' cells' 0 sz/\cells'.size=len*sz:=by
        intro c w ρ hps
        have hel:=Qp1 (I:=c.I) (w:=w) hz hus (Qq4 hzz hp c w) (aO len)
        obtain⟨cells',k1,k2,k3⟩:=hr c w ρ (madeCells u.cells (len*sz)) (by simp [madeCells]) hel hps
        refine⟨cells',?_,k3,k2⟩
        have hbig: ¬len*sz>2^24:=by omega
        have hcs:0<P.cellsOf e:=by omega
        unfold Instr.buildSlice
        simp only[Sem.run_bind,run_underlying hk.1,Result.andThen_ok,Q88 hcs,hc,Sem.run_ite,hbig,if_false,Sem.run_pure]
        by_cases hz0:len*sz=0
        . have hk1:Instr.fill (λi=>some (i*sz,sz)) ((gC (len*sz)).map λx=>(#[]:Array Value)[x%(#[]:Array Value).size]!) (parts.map λp=>(p.1,ρ p.2))=some cells':=by
            rw[<-k1];congr 1
            rw[hz0];simp [madeCells]
          simp only[hz0,if_true]at hk1⊢
          rw[hk1]
          simp only[newRow,Sem.run_bind,run_newObj,Result.andThen_ok,Sem.run_pure]
          rfl
        . simp only[hz0,if_false,hzero,Result.andThen_ok]
          rw[show Instr.fill (λi=>some (i*sz,sz)) ((gC (len*sz)).map λx=>u.cells[x%u.cells.size]!) (parts.map λp=>(p.1,ρ p.2))=some cells' from k1]
          simp only[newRow,Sem.run_bind,run_newObj,Result.andThen_ok,Sem.run_pure]
          rfl
      refine⟨_,_,hK,λc w ρ hps=> ?_⟩
      obtain⟨cells',h1,h2,h3⟩:=main c w ρ hps
      refine⟨_,cells',h1,⟨h0,?_⟩,λ_ _=> ?_⟩
      . simp only[aN,if_false,Els.ofT_l];exact h2
      . have:=Qwt (c:=c) (w:=w) (k:=R.length) (e:=e) (sz:=sz) (cap:=len) (es:=Els.ofT e es') (arr:=cells') (by rw[Els.ofT_l,hl'];exact aO _) (by
          have:len*1<=len*sz:=Nat.mul_le_mul_left len h0
          unfold maxLen;omega) h3.symm
        rw[Els.ofT_l,hl']at this
        exact this
    . exact h.elim
  . exact h.elim

