import Derived.Test.YthjfindbamdacaaGreatDoorAuditScriptsFm
import Derived.Lib.Strings
open Bool renaming eq_iff_iff->eI,false_eq_true->aN,and_true->gJ
open Option renaming map_eq_some_iff->fQ,getD_some->aG
open Nat renaming add_assoc->fY,succ_mul->aW,le_refl->aO,sub_zero->gC,sub_self->gD,zero_add->aX,mul_le_mul_right->aV,add_zero->bG,zero_mul->cM
open List renaming length_nil->dJ,map_cons->fR,length_cons->dI,getElem?_cons_zero->gE,getElem?_set_self->gG,getElem?_set_ne->gH,getD->aK,getElem?_toArray->aY,getElem?_eq_getElem->cG,getElem_mem->fI,ext_getElem?->gI,append_assoc->fF,getElem?_append_right->bB,getElem?_append_left->aZ,getElem?_eq_none->aM,cons_append->cD,replicate->cQ
open Array renaming toArray_toList->bS,range->gK
set_option linter.all false
namespace Go.GD
open Go
theorem Zgc(a b:List UInt8):(ByteArray.mk a.toArray)++(ByteArray.mk b.toArray)=ByteArray.mk (a++b).toArray:=by
 rw[ByteArray.ext_iff]
 simp
theorem Rep.int{c:Ctx}{w:World}{k:IntKind}{n:Int}{v:Value}:Rep c w (.int k n) v↔v=.int k n:=Iff.rfl
theorem Rep.bool{c:Ctx}{w:World}{b:Bool}{v:Value}:Rep c w (.bool b) v↔v=.bool b:=Iff.rfl
theorem Rep.str{c:Ctx}{w:World}{s:List UInt8}{v:Value}:Rep c w (.str s) v↔v=.string ⟨s.toArray⟩:=Iff.rfl
theorem ZF{P:Program}{op:BinOp}{t:TypeId}{x y:Operand}{k k':IntKind}{a b:Int}(w:World):(eqGuard op t x y (.int k a) (.int k' b)).run P w=.ok () w:=by
 cases op<;>rfl
theorem Zju{P:Program}{op:BinOp}{t:TypeId}{x y:Operand}{a b:ByteArray}(w:World):(eqGuard op t x y (.string a) (.string b)).run P w=.ok () w:=by
 cases op<;>rfl
theorem Qzc{P:Program}{op:BinOp}{t:TypeId}{x y:Operand}{a b:Bool}(w:World):(eqGuard op t x y (.bool a) (.bool b)).run P w=.ok () w:=by
 cases op<;>rfl
theorem xaw{P:Program}{op:BinOp}{t:TypeId}{k:IntKind}{a b:Int}{K:D->Prop}(rQ:op≠.shl/\op≠.shr)(h:Zo op k a b K):
 ∃d,K d/\∀w,∃u,(binOp op t (.int k a) (.int k b)).run P w=.ok u w/\∀c,Rep c w d u:=by
 cases op<;>simp only[Zo,da,decide_eq_true_eq]at h
 case add=>exact⟨_,h,λw=>⟨_,by simp only[binOp,ne_eq,not_true_eq_false,if_false,Op.intArith,Sem.run_pure];try rfl,λc=>rfl⟩⟩
 case sub=>exact⟨_,h,λw=>⟨_,by simp only[binOp,ne_eq,not_true_eq_false,if_false,Op.intArith,Sem.run_pure];try rfl,λc=>rfl⟩⟩
 case mul=>exact⟨_,h,λw=>⟨_,by simp only[binOp,ne_eq,not_true_eq_false,if_false,Op.intArith,Sem.run_pure];try rfl,λc=>rfl⟩⟩
 case quo=>exact⟨_,h.2,λw=>⟨_,by simp only[binOp,ne_eq,not_true_eq_false,if_false,Op.intDiv,h.1,Sem.run_pure];try rfl,λc=>rfl⟩⟩
 case rem=>exact⟨_,h.2,λw=>⟨_,by simp only[binOp,ne_eq,not_true_eq_false,if_false,Op.intDiv,h.1,Sem.run_pure];try rfl,λc=>rfl⟩⟩
 case and=>exact⟨_,h,λw=>⟨_,by simp only[binOp,ne_eq,not_true_eq_false,if_false,Op.intBits,Sem.run_pure];try rfl,λc=>rfl⟩⟩
 case or=>exact⟨_,h,λw=>⟨_,by simp only[binOp,ne_eq,not_true_eq_false,if_false,Op.intBits,Sem.run_pure];try rfl,λc=>rfl⟩⟩
 case xor=>exact⟨_,h,λw=>⟨_,by simp only[binOp,ne_eq,not_true_eq_false,if_false,Op.intBits,Sem.run_pure];try rfl,λc=>rfl⟩⟩
 case andNot=>exact⟨_,h,λw=>⟨_,by simp only[binOp,ne_eq,not_true_eq_false,if_false,Op.intBits,Sem.run_pure];try rfl,λc=>rfl⟩⟩
 case eql=>exact⟨_,h,λw=>⟨_,by simp only[binOp,ne_eq,not_true_eq_false,if_false,Op.intCmp,Sem.run_pure];try rfl,λc=>rfl⟩⟩
 case neq=>exact⟨_,h,λw=>⟨_,by simp only[binOp,ne_eq,not_true_eq_false,if_false,Op.intCmp,Sem.run_pure];try rfl,λc=>rfl⟩⟩
 case lss=>exact⟨_,h,λw=>⟨_,by simp only[binOp,ne_eq,not_true_eq_false,if_false,Op.intCmp,Sem.run_pure];try rfl,λc=>rfl⟩⟩
 case leq=>exact⟨_,h,λw=>⟨_,by simp only[binOp,ne_eq,not_true_eq_false,if_false,Op.intCmp,Sem.run_pure];try rfl,λc=>rfl⟩⟩
 case gtr=>exact⟨_,h,λw=>⟨_,by simp only[binOp,ne_eq,not_true_eq_false,if_false,Op.intCmp,Sem.run_pure];try rfl,λc=>rfl⟩⟩
 case geq=>exact⟨_,h,λw=>⟨_,by simp only[binOp,ne_eq,not_true_eq_false,if_false,Op.intCmp,Sem.run_pure];try rfl,λc=>rfl⟩⟩
theorem Zfs{P:Program}{t:TypeId}{k k':IntKind}{a b:Int}(hb:0<=b)(w:World):
 (binOp .shl t (.int k a) (.int k' b)).run P w=.ok (.int k (eg k a b)) w/\(binOp .shr t (.int k a) (.int k' b)).run P w=.ok (.int k (bg k a b)) w:=by
 have:¬b<0:=by omega
 constructor<;>(simp only[binOp];simp[Op.shift,this,eg,bg])
theorem qax{P:Program}{op:BinOp}{t:TypeId}{a b:List UInt8}{K:D->Prop}
 (h:match op with
  |.add=>cr (decide (a.length+b.length<=maxLen)) (K (.str (a++b)))
  |.eql=>K (.bool (decide (a=b)))
  |.neq=>K (.bool (!decide (a=b)))
  |_=>False):
 ∃d,K d/\∀w,∃u,(binOp op t (.string ⟨a.toArray⟩) (.string ⟨b.toArray⟩)).run P w=.ok u w/\∀c,Rep c w d u:=by
 cases op<;>simp only[da,decide_eq_true_eq]at h
 case add=>
  refine⟨_,h.2,λw=>⟨_,?_,λc=>rfl⟩⟩
  have hl:¬(((a.toArray.size+b.toArray.size:Nat):Int)>IntKind.i64.max):=by
   have:=h.1
   unfold maxLen at this
   simp only[List.size_toArray,IntKind.max,IntKind.signed,IntKind.bits,if_true]
   omega
  simp only[binOp]
  simp only[Op.stringOp,ByteArray.size,hl,if_false,Sem.run_pure,Zgc]
 case eql=>
  refine⟨_,h,λw=>⟨_,?_,λc=>rfl⟩⟩
  simp only[binOp]
  simp only[Op.stringOp,Sem.run_pure,ByteArray.toList_mk,show(a==b)=decide (a=b) from by rw[eI];simp]
  try rfl
 case neq=>
  refine⟨_,h,λw=>⟨_,?_,λc=>rfl⟩⟩
  simp only[binOp]
  simp only[Op.stringOp,Sem.run_pure,ByteArray.toList_mk,show(a==b)=decide (a=b) from by rw[eI];simp]
  try rfl
def Ge(P:Program)(x:Sem Value)(w:World)(c:Ctx)(d:D):Prop:=∃u,x.run P w=.ok u w/\Rep c w d u
theorem mX{P:Program}{T:fq}(hT:jz P T){t:TypeId}{k:TK}{a b:Nat}{cs:List rb}{z:Option (List D)}{e:Bool}(h:T.get t=some ⟨k,a,b,cs,z,e⟩):
 match k with
 |.int j=>P.underlying t=some (.int j)
 |.bool=>P.underlying t=some .bool
 |.string=>P.underlying t=some .string
 |.slice u n=>P.underlying t=some (.slice u)/\P.cellsOf u=n
 |.struct fs=>∃gs,P.underlying t=some (.struct gs)/\fs=gs.toList.map λf=>(f.offset,f.type,P.cellsOf f.type)
 |.array m u n=>P.underlying t=some (.array m u)/\P.cellsOf u=n
 |.other=>True:=by
 obtain⟨i,hi,hs,hb,hl,hk,_⟩:=DH (hT.get h)
 simp only at hk
 unfold Qz at hk
 split at hk<;>(subst hk;simp_all)
theorem zax{P:Program}{T:fq}(hT:jz P T){s d:TypeId}{x:D}{K:D->Prop}(h:ME T s d x K):
 ∃val,K val/\∀c w v,Rep c w x v->Ge P (convert s d v) w c val:=by
 unfold ME at h
 split at h
 ·rename_i k1 _ _ _ _ _ k2 _ _ _ _ _ hs hd
  have h1:=mX hT hs
  have h2:=mX hT hd
  simp only at h1 h2
  cases x<;>simp only at h
  exact⟨_,h,λc w v hv=>⟨_,by rw[Rep.int.1 hv];simp only[convert,Sem.run_bind,run_underlying h1,run_underlying h2,Result.andThen_ok,Conv.intToInt,Sem.run_pure],rfl⟩⟩
 ·rename_i hs hd
  have h1:=mX hT hs
  have h2:=mX hT hd
  simp only at h1 h2
  cases x<;>simp only at h
  exact⟨_,h,λc w v hv=>⟨_,by rw[Rep.str.1 hv];simp only[convert,Sem.run_bind,run_underlying h1,run_underlying h2,Result.andThen_ok,Sem.run_pure],rfl⟩⟩
 ·exact h.elim
theorem Qyq{P:Program}{T:fq}(hT:jz P T){s:TypeId}{f o:Nat}{q:TypeId×Nat}(h:QD T s f=some (o,q)):
 ∃fs fd,P.underlying s=some (.struct fs)/\fs[f]?=some fd/\fd.offset=o/\fd.type=q.1/\P.cellsOf fd.type=q.2:=by
 unfold QD at h
 split at h
 ·rename_i fs _ _ _ _ _ ht
  obtain⟨i,hi,hs,hb,hl,hk,_⟩:=DH (hT.get ht)
  simp only at hk
  unfold Qz at hk
  split at hk<;>try(cases hk;done)
  rename_i gs hd
  simp only[TK.struct.injEq]at hk
  subst hk
  simp only[List.getElem?_map,fQ,Prod.mk.injEq,Array.getElem?_toList]at h
  obtain⟨fd,h1,h2,h3⟩:=h
  exact⟨gs,fd,hd,h1,h2,by rw[<-h3],by rw[<-h3]⟩
 ·cases h
theorem Zdd{P:Program}{t:TypeId}(h:0<P.cellsOf t):∃i,P.info? t=some i:=by
 unfold Program.cellsOf at h
 cases hi:P.info? t with
 |none=>simp[hi]at h
 |some i=>exact⟨i,rfl⟩
theorem Bz{P:Program}{t:TypeId}(h:0<P.cellsOf t)(w:World):(sizeOf t).run P w=.ok (P.cellsOf t) w:=by
 obtain⟨i,hi⟩:=Zdd h
 exact run_sizeOf w hi
theorem Z1s{P:Program}{s:TypeId}{fs:Array Field}{f:Nat}{fd:Field}(hs:P.underlying s=some (.struct fs))(hf:fs[f]?=some fd)(h0:0<P.cellsOf fd.type)(b o:Nat)(w:World):
 (Instr.fieldAt s (.pointer (some ⟨b,o,none⟩)) f).run P w=.ok (.pointer (some ⟨b,o+fd.offset,none⟩)) w:=by
 have h1:¬P.cellsOf fd.type=0:=by omega
 simp only[Instr.fieldAt,Sem.run_bind,run_underlying hs,Result.andThen_ok,hf,Instr.sureAddr,Sem.run_pure,fieldPlace,Bz h0,Sem.run_ite,h1,if_false,FE]
theorem Zp2{P:Program}{T:fq}(hT:jz P T){t:TypeId}{x:D}{U4:Bool}{n:Int}{k:IntKind}{R:Rows}{K:D->Rows->Prop}(h:U5 T t x U4 n R K):
 ∃val,K val R/\∀c w v,Mem c w->mJ c R->Rep c w x v->Ge P (Instr.indexAt t v (.int k n)) w c val:=by
 unfold U5 at h
 split at h
 ·rename_i e iN _ _ _ _ _ ht
  have hk:=mX hT ht
  simp only at hk
  obtain⟨hu,fx⟩:=hk
  have ZL:∀(b o len cap:Nat) (w:World),0<iN->0<=n->n<len->(Instr.indexAt t (.slice (some ⟨b,o,none⟩) len cap) (.int k n)).run P w=.ok (.pointer (some ⟨b,o+n.toNat*iN,none⟩)) w:=by
   intro b o len cap w h0 h1 h2
   simp only[Instr.indexAt,asIntOf,Sem.run_bind,Sem.run_pure,Result.andThen_ok,run_underlying hu,Sem.run_ite,h1,h2,and_self,if_true,Bz (fx▸h0),fx,FE]
  cases x<;>simp only[da,aE,decide_eq_true_eq,<-ao.iw]at h
  case sl sz es fr=>
   obtain⟨⟨⟨h1,h0⟩,h2,h3⟩,h⟩:=h
   have h1:=bE h1
   have h0:0<iN:=lE h0
   subst h1
   refine⟨_,h,λc w v hm hA hv=>?_⟩
   obtain⟨a,cap,hv,hc,ij⟩:=hv
   rcases ij with ij|⟨b,off,arr,ty,fz,ha,hI,hf,hh,hE⟩
   ·rw[ij]at h3;simp at h3;omega
   ·subst ha;subst hv
    refine⟨_,ZL b off _ _ w h0 h2 h3,b,off,arr,ty,fz,by simp,hI,by omega,hh,hE⟩
  case all r=>
   split at h
   ·rename_i box ty sz es hR
    obtain⟨⟨⟨h1,h0⟩,h2,h3⟩,h⟩:=h
    have h1:=bE h1
    have h0:0<iN:=lE h0
    subst h1
    refine⟨_,h,λc w v hm hA hv=>?_⟩
    obtain⟨row,g1,g2,hv⟩:=hv
    have:=hA r row _ g1 hR
    subst this
    rcases hv with⟨hV,a,hv,_⟩|⟨hV,cap,arr,hv,g3,g4,g5,g6⟩
    ·have:=(hm.oe g1 hV).2.1
     simp only at this
     rw[this]at h3
     simp at h3;omega
    ·subst hv
     exact⟨_,ZL _ 0 _ _ w h0 h2 h3,_,g1,hV,by simp only;omega,by simp⟩
   ·exact h.elim
  case own r o m=>
   split at h
   ·rename_i box ty sz es hR
    obtain⟨⟨⟨h1,h0⟩,h2,h3⟩,h⟩:=h
    have h1:=bE h1
    have h0:0<iN:=lE h0
    subst h1
    refine⟨_,h,λc w v hm hA hv=>?_⟩
    obtain⟨row,g1,g2,g5,hv⟩:=hv
    have:=hA r row _ g1 hR
    subst this
    simp only at*
    rcases hv with⟨g7,_⟩|⟨hV,cap,arr,g3,g4,g6,hv,g7⟩
    ·omega
    ·subst hv
     exact⟨_,ZL _ _ _ _ w h0 h2 h3,_,g1,hV,by simp only;omega,by simp[Nat.add_mul]⟩
   ·exact h.elim
 ·rename_i len e iN _ _ _ _ _ ht
  have hk:=mX hT ht
  simp only at hk
  obtain⟨hu,fx⟩:=hk
  simp only[da,aE,decide_eq_true_eq]at h
  obtain⟨⟨h0,h2,h3⟩,h⟩:=h
  have h0:0<iN:=lE h0
  have CZ:∀(b o:Nat) (w:World),(Instr.indexAt t (.pointer (some ⟨b,o,none⟩)) (.int k n)).run P w=.ok (.pointer (some ⟨b,o+n.toNat*iN,none⟩)) w:=by
   intro b o w
   simp only[Instr.indexAt,asIntOf,Sem.run_bind,Sem.run_pure,Result.andThen_ok,run_underlying hu,Instr.sureAddr,Sem.run_ite,h2,h3,and_self,if_true,Bz (fx▸h0),fx,FE]
  cases x<;>simp only at h
  case ptr r i off=>
   have w7:K (.ptr r i (off+n.toNat*iN)) R->∃val,K val R/\∀c w v,Mem c w->mJ c R->Rep c w (.ptr r i off) v->Ge P (Instr.indexAt t v (.int k n)) w c val:=λh=>
    ⟨_,h,λc w v hm hA hv=>by
     obtain⟨row,g1,gV,g2,hv⟩:=hv
     subst hv
     exact⟨_,CZ _ _ w,row,g1,gV,g2,by simp[fY]⟩⟩
   have QE:∀kk,Nat.beq iN 1=true->K (.pa r i off len kk n.toNat) R->∃val,K val R/\∀c w v,Mem c w->mJ c R->Rep c w (.ptr r i off) v->Ge P (Instr.indexAt t v (.int k n)) w c val:=λkk h1 h=>
    ⟨_,h,λc w v hm hA hv=>by
     obtain⟨row,g1,gV,g2,hv⟩:=hv
     have h1:=bE h1
     subst hv
     exact⟨_,CZ _ _ w,by omega,row,g1,gV,g2,by simp[fY,h1]⟩⟩
   cases U4 with
   |true=>exact w7 h
   |false=>
    simp only at h
    split at h
    ·exact QE _ h.1 h.2
    ·exact QE _ h.1 h.2
    ·exact w7 h
  case iu sz es i off=>
   refine⟨_,h,λc w v hm hA hv=>?_⟩
   obtain⟨b,o,arr,ty,fz,hv,hI,hi,hh,hE⟩:=hv
   subst hv
   exact⟨_,CZ _ _ w,b,o,arr,ty,fz,by simp[fY],hI,hi,hh,hE⟩
 ·exact h.elim
theorem qaa{ev:Operand->D}{x:Option Operand}{n l:Int}{c:Ctx}{w:World}{ρ:Operand->Value}(h:r8 x ev n=some l)(hr:∀y,x=some y->Rep c w (ev y) (ρ y)):
 (x=none/\l=n)\/∃y k,x=some y/\ρ y=.int k l:=by
 cases x with
 |none=>simp[r8]at h;exact .inl ⟨rfl,h.symm⟩
 |some y=>
  simp only[r8]at h
  cases hd:ev y<;>simp only[hd]at h<;>try(cases h;done)
  have:=hr y rfl
  rw[hd]at this
  simp only[Option.some.injEq]at h
  subst h
  exact .inr ⟨y,_,rfl,Rep.int.1 this⟩
theorem Z8c{P:Program}{b:Bool}{len cap:Nat}{lo hi:Option Operand}{ev:Operand->D}{l h:Int}{c:Ctx}{w:World}{ρ:Operand->Value}
 (hl:r8 lo ev 0=some l) (hh:r8 hi ev len=some h) (rC:∀y,lo=some y->Rep c w (ev y) (ρ y)) (Bd:∀y,hi=some y->Rep c w (ev y) (ρ y))
 (h0:0<=l) (h1:l<=h) (h2:h<=cap):(Instr.sliceBounds b len cap (lo.map ρ) (hi.map ρ) none).run P w=.ok (l.toNat,h.toNat,cap) w:=by
 have bound:∀(k:IntKind) (i:Int) (y:Nat) (code:BoundsCode),0<=i->i<=y->(Instr.sliceBound (.int k i) y code).run P w=.ok i.toNat w:=by
  intro k i y code a1 a2
  simp[Instr.sliceBound,asIntOf,a1,a2]
 rcases qaa hh Bd with⟨rfl,rfl⟩|⟨y,k,rfl,hy⟩<;>rcases qaa hl rC with⟨rfl,rfl⟩|⟨z,k',rfl,hz⟩
 ·simp[Instr.sliceBounds]
 ·simp[Instr.sliceBounds,hz,bound k' l len _ h0 h1]
 ·simp[Instr.sliceBounds,hy,bound k h cap _ (by omega) h2]
 ·simp[Instr.sliceBounds,hy,hz,bound k h cap _ (by omega) h2,bound k' l h.toNat _ h0 (by omega)]
theorem KA{I:ae}{w:World}:∀{es:List (List D)} {arr:Array Value} {off sz l:Nat},iJ I w es arr off sz->iJ I w (es.drop l) arr (off+l*sz) sz
 |es,arr,off,sz,0,h=>by simpa using h
 |[],arr,off,sz,l+1,h=>by simp[pN,oi]
 |e::es,arr,off,sz,l+1,h=>by
  simp only[pN,oi]at h
  have:=KA (l:=l) h.2.2
  rw[show off+(l+1)*sz=off+sz+l*sz by rw[aW];omega]
  simpa using this
theorem Mo{I:ae}{w:World}:∀{es:List (List D)} {arr:Array Value} {off sz n:Nat},iJ I w es arr off sz->iJ I w (es.take n) arr off sz
 |es,arr,off,sz,0,h=>by simp[pN,oi]
 |[],arr,off,sz,n+1,h=>by simp[pN,oi]
 |e::es,arr,off,sz,n+1,h=>by
  simp only[pN,oi]at h
  simp only[List.take_succ_cons,pN,oi]
  exact⟨h.1,h.2.1,Mo h.2.2⟩
theorem Zbr(s:List UInt8)(l h:Nat):(ByteArray.mk s.toArray).extract l h=⟨((s.drop l).take (h-l)).toArray⟩:=by
 rw[Lib.extract_eq]
theorem Zh0:∀{e:List D} {off n:Nat},(ints e off n).length=n
 |_,_,0=>rfl
 |e,off,n+1=>by simp[ints,Zh0]
theorem Z9b{I:ae}{w:World}{k:IntKind}{e:List D}{arr:Array Value}{o:Nat}(h:nQ I w e arr o):∀{n off:Nat},off+n<=e.length->CR k e off n=true->iJ I w (ao.ints k (ints e off n)).l arr (o+off) 1
 |0,_,_,_=>pN.2 trivial
 |n+1,off,hl,ha=>by
  simp only[CR,aE]at ha
  obtain⟨v,hv,hp⟩:=UI h (j:=off) (by omega)
  rw[D.j6 ha.1]at hp
  have r:=Z9b h (n:=n) (off:=off+1) (by omega) ha.2
  rw[show o+(off+1)=o+off+1 by omega]at r
  exact oi.2 ⟨rfl,Aq.2 ⟨⟨v,hv,hp⟩,BP.2 trivial⟩,r⟩
theorem qS{P:Program}{T:fq}(hT:jz P T){t:TypeId}{x:D}{lo hi:Option Operand}{ev:Operand->D}{R:Rows}{K:D->Rows->Prop}(h:MF T t x lo hi ev R K):
 ∃ val,K val R/\∀c w v (ρ:Operand->Value),Mem c w->mJ c R->Rep c w x v->(∀y,lo=some y->Rep c w (ev y) (ρ y))->(∀y,hi=some y->Rep c w (ev y) (ρ y))->
  Ge P (Instr.sliceAt t v (lo.map ρ) (hi.map ρ) none) w c val:=by
 unfold MF at h
 split at h
 ·rename_i ht
  have hu:=mX hT ht
  simp only at hu
  cases x<;>simp only at h
  case str s=>
   split at h
   ·rename_i l u hl hh
    try rw[<-ao.iw]at hh
    simp only[da,decide_eq_true_eq]at h
    obtain⟨⟨h0,h1,h2⟩,h⟩:=h
    refine⟨_,h,λc w v ρ hm hA hv rC Bd=>?_⟩
    rw[Rep.str.1 hv]
    refine⟨_,?_,rfl⟩
    have hb:=Z8c (P:=P) (b:=false) (len:=s.length) (cap:=s.length) hl hh rC Bd h0 h1 h2
    have fx:(ByteArray.mk s.toArray).size=s.length:=by simp[ByteArray.size]
    simp only[Instr.sliceAt,Sem.run_bind,run_underlying hu,Result.andThen_ok,Instr.slice,Option.isSome_none,aN,if_false,fx,hb,Sem.run_pure,Zbr]
   ·exact h.elim
 ·rename_i e iN _ _ _ _ _ ht
  have hk:=mX hT ht
  simp only at hk
  obtain⟨hu,fx⟩:=hk
  have sl:∀(a:Option Addr) (len cap:Nat) (l u:Int) (c:Ctx) (w:World) (ρ:Operand->Value),0<iN->r8 lo ev 0=some l->r8 hi ev len=some u->(∀y,lo=some y->Rep c w (ev y) (ρ y))->(∀y,hi=some y->Rep c w (ev y) (ρ y))->
   0<=l->l<=u->u<=cap->(Instr.sliceAt t (.slice a len cap) (lo.map ρ) (hi.map ρ) none).run P w=.ok (.slice (if cap=l.toNat then a else a.map (·.add (l.toNat*iN))) (u.toNat-l.toNat) (cap-l.toNat)) w:=by
   intro a len cap l u c w ρ h0 hl hh rC Bd g0 g1 g2
   have hb:=Z8c (P:=P) (b:=true) (len:=len) (cap:=cap) hl hh rC Bd g0 g1 g2
   simp only[Instr.sliceAt,Sem.run_bind,run_underlying hu,Result.andThen_ok,Instr.slice,hb,Bz (fx▸h0),fx,Sem.run_pure]
  cases x<;>simp only at h
  case sl sz es fr=>
   split at h
   ·rename_i l u hl hh
    try rw[<-ao.iw]at hh
    simp only[da,aE,decide_eq_true_eq,<-ao.iw]at h
    obtain⟨⟨⟨h1,h0⟩,g0,g1,g2⟩,h⟩:=h
    have h1:=bE h1
    have h0:0<iN:=lE h0
    subst h1
    refine⟨_,h,λc w v ρ hm hA hv rC Bd=>?_⟩
    obtain⟨a,cap,hv,hc,ij⟩:=hv
    subst hv
    refine⟨_,sl a _ cap l u c w ρ h0 hl hh rC Bd g0 g1 (by omega),?_⟩
    have hlen:((es.drop l.toNat).take (u.toNat-l.toNat)).l.length=u.toNat-l.toNat:=by rw[ao.iZ,ao.kb];simp only[List.length_take,List.length_drop];omega
    refine⟨_,cap-l.toNat,by rw[hlen],by omega,?_⟩
    rw[ao.iZ,ao.kb]
    by_cases hlu:l=u
    ·left
     subst hlu
     simp
    ·rcases ij with ij|⟨b,off,arr,ty,fz,ha,hI,hf,hh,hE⟩
     ·rw[ij]at g2;simp at g2;omega
     ·right
      subst ha
      refine⟨b,off+l.toNat*sz,arr,ty,fz,?_,hI,hf,hh,Mo (KA hE)⟩
      rw[if_neg (by omega)]
      simp[FE]
   ·exact h.elim
  case all r=>
   split at h
   ·rename_i box ty sz es hR
    split at h
    ·rename_i l u hl hh
     try rw[<-ao.iw]at hh
     simp only[da,aE,decide_eq_true_eq,<-ao.iw]at h
     obtain⟨⟨⟨h1,h0⟩,g0,g1,g2⟩,h⟩:=h
     have h1:=bE h1
     have h0:0<iN:=lE h0
     subst h1
     refine⟨_,h,λc w v ρ hm hA hv rC Bd=>?_⟩
     obtain⟨row,k1,k2,hv⟩:=hv
     have:=hA r row _ k1 hR
     subst this
     rcases hv with⟨hV,a,hv,AF⟩|⟨hV,cap,arr,hv,k3,k4,k5,k6⟩
     ·have he:=(hm.oe k1 hV).2.1
      simp only at he
      rw[he]at g2 hh
      simp at g2
      subst hv
      refine⟨_,sl a 0 0 l u c w ρ h0 hl hh rC Bd g0 g1 (by omega),_,k1,k2,by simp only[he,dJ];omega,.inl ⟨by omega,a,?_,.inl AF⟩⟩
      rw[if_pos (by omega)]
      simp;omega
     subst hv
     simp only at*
     refine⟨_,sl _ _ cap l u c w ρ h0 hl hh rC Bd g0 g1 (by omega),_,k1,k2,by simp only;omega,?_⟩
     by_cases gn:cap=l.toNat
     ·left
      exact⟨by omega,some ⟨c.ρ r,0,none⟩,by rw[if_pos gn,show u.toNat-l.toNat=0 by omega,show cap-l.toNat=0 by omega],.inr ⟨hV,λx hx=>by cases hx;rfl⟩⟩
     ·right
      refine⟨hV,cap-l.toNat,arr,by omega,by omega,k5,by rw[if_neg gn];simp[FE],?_⟩
      rw[<-k6];congr 1;omega
    ·exact h.elim
   ·exact h.elim
  case own r o m=>
   split at h
   ·rename_i box ty sz es hR
    split at h
    ·rename_i l u hl hh
     try rw[<-ao.iw]at hh
     simp only[da,aE,decide_eq_true_eq,<-ao.iw]at h
     obtain⟨⟨⟨h1,h0⟩,g0,g1,g2⟩,h⟩:=h
     have h1:=bE h1
     have h0:0<iN:=lE h0
     subst h1
     refine⟨_,h,λc w v ρ hm hA hv rC Bd=>?_⟩
     obtain⟨row,k1,k2,k5,hv⟩:=hv
     have:=hA r row _ k1 hR
     subst this
     simp only at*
     rcases hv with⟨k7,a,hv,AF⟩|⟨hV,cap,arr,k3,k4,k6,hv,k7⟩
     ·subst hv
      subst k7
      refine⟨_,sl a 0 0 l u c w ρ h0 hl hh rC Bd g0 g1 (by omega),_,k1,k2,by simp only;omega,.inl ⟨by omega,a,?_,AF⟩⟩
      rw[if_pos (by omega)]
      simp;omega
     ·subst hv
      refine⟨_,sl _ _ cap l u c w ρ h0 hl hh rC Bd g0 g1 (by omega),_,k1,k2,by simp only;omega,?_⟩
      by_cases gn:cap=l.toNat
      ·left
       exact⟨by omega,some ⟨c.ρ r,o*sz,none⟩,by rw[if_pos gn,show u.toNat-l.toNat=0 by omega,show cap-l.toNat=0 by omega],.inr ⟨hV,λx hx=>by cases hx;rfl⟩⟩
      ·right
       refine⟨hV,cap-l.toNat,arr,by omega,by omega,k6,by rw[if_neg gn];simp[FE,Nat.add_mul],?_⟩
       simp only
       rw[<-k7];congr 1;omega
    ·exact h.elim
   ·exact h.elim
 ·rename_i len e iN _ _ _ _ _ ht
  have hk:=mX hT ht
  simp only at hk
  obtain⟨hu,fx⟩:=hk
  cases x
  case iu sz es i off=>
   split at h
   ·rename_i heq
    cases heq
    split at h
    ·rename_i k _ _ _ _ _ he
     simp only[da,aE]at h
     obtain⟨⟨h1,h2,h3⟩,h⟩:=h
     have h1:=bE h1
     have h2:=lE h2
     subst h1
     refine⟨_,h,λc w v ρ hm hA hv _ _=>?_⟩
     obtain⟨b,o,arr,ty,fz,hv,hI,hi,hh,hE⟩:=hv
     subst hv
     obtain⟨q1,q2⟩:=UJ hE hi
     rw[ao.nq es (by rw[<-ao.iw];exact hi)]at q1 q2
     have hlen:(ao.ints k (ints (es.get i) off len)).l.length=len:=by simp[ao.l,Zh0]
     refine⟨.slice (some (if len=0 then⟨b,o+i*sz+off,none⟩else Addr.add ⟨b,o+i*sz+off,none⟩ (0*1))) len len,?_,⟨_,len,by rw[hlen],by rw[hlen];exact aO _,.inr ⟨b,o+i*sz+off,arr,ty,fz,?_,hI,(λhf=>by cases hf),hh,Z9b q2 (by omega) h3⟩⟩⟩
     ·simp only[Instr.sliceAt,Instr.sureAddr,Instr.sliceBounds,Sem.run_bind,run_underlying hu,Result.andThen_ok,Sem.run_pure,Bz (fx▸Nat.zero_lt_one),fx,Option.map_none,gC]
     ·congr 1
      split
      ·rfl
      ·simp[FE]
    ·exact h.elim
   ·exact h.elim
  all_goals exact h.elim
 ·exact h.elim
theorem qaP{P:Program}{T:fq}(hT:jz P T){t t':TypeId}{x:D}{R:Rows}{K:D->Rows->Prop}(h:ta T t x R K):
 ∃val,K val R/\∀c w v,Mem c w->mJ c R->Rep c w x v->Ge P (Builtin.len_ #[t] t' #[v]) w c val:=by
 unfold ta at h
 split at h
 ·rename_i ht
  have hu:=mX hT ht
  simp only at hu
  cases x<;>simp only at h
  rename_i s
  refine⟨_,h,λc w v hm hA hv=>⟨_,?_,rfl⟩⟩
  rw[Rep.str.1 hv]
  have fx:(ByteArray.mk s.toArray).size=s.length:=by simp[ByteArray.size]
  have h0:(#[t]:Array TypeId)[0]?=some t:=rfl
  have h1:(#[Value.string ⟨s.toArray⟩]:Array Value)[0]?=some (Value.string ⟨s.toArray⟩):=rfl
  unfold Builtin.len_
  simp only[h0,h1,Sem.run_bind,run_underlying hu,Result.andThen_ok,goInt,fx,Sem.run_pure]
 ·rename_i e iN _ _ _ _ _ ht
  have hk:=mX hT ht
  simp only at hk
  obtain⟨hu,fx⟩:=hk
  have ln:∀(a:Option Addr) (n cap:Nat) (w:World),(Builtin.len_ #[t] t' #[.slice a n cap]).run P w=.ok (.int .i64 n) w:=by
   intro a n cap w
   simp[Builtin.len_,run_underlying hu,goInt]
  cases x<;>simp only at h
  case du=>exact⟨_,h,λc w v hm hA hv=>⟨_,by rw[show v=_ from hv];exact ln _ _ _ w,rfl⟩⟩
  case emp=>exact⟨_,h,λc w v hm hA hv=>by obtain⟨a,hv,_⟩:=hv;subst hv;exact⟨_,ln _ _ _ w,rfl⟩⟩
  case sl sz es fr=>
   refine⟨_,h,λc w v hm hA hv=>?_⟩
   obtain⟨a,cap,hv,_⟩:=hv
   subst hv
   exact⟨_,ln _ _ _ w,by rw[ao.iw];rfl⟩
  case all r=>
   split at h
   ·rename_i box ty sz es hR
    refine⟨_,h,λc w v hm hA hv=>?_⟩
    obtain⟨row,k1,k2,hv⟩:=hv
    have:=hA r row _ k1 hR
    subst this
    rcases hv with⟨hV,a,hv,_⟩|⟨hV,cap,arr,hv,k3,k4,k5,k6⟩
    ·have he:=(hm.oe k1 hV).2.1
     simp only at he
     subst hv
     refine⟨_,ln _ _ _ w,?_⟩
     rw[<-ao.iw,he];rfl
    ·subst hv
     exact⟨_,ln _ _ _ w,by simp only[ao.iw];rfl⟩
   ·exact h.elim
  case own r o m=>
   refine⟨_,h,λc w v hm hA hv=>?_⟩
   obtain⟨row,k1,k2,k5,hv⟩:=hv
   rcases hv with⟨h0,a,hv,_⟩|⟨hV,cap,arr,k3,k4,k6,hv,k7⟩
   ·subst hv;subst h0;exact⟨_,ln _ _ _ w,rfl⟩
   ·subst hv;exact⟨_,ln _ _ _ w,rfl⟩
 ·exact h.elim
theorem jm.set{c:Ctx}{w:World}:∀{ds:List D} {vs:List Value} {d:D} {v:Value} (i:Nat),jm c w ds vs->cv c w d v->jm c w (ds.set i d) (vs.set i v)
 |[],[],_,_,_,h,_=>by simpa using h
 |[],_::_,_,_,_,h,_=>h.elim
 |_::_,[],_,_,_,h,_=>h.elim
 |a::ds,b::vs,d,v,0,h,hd=>⟨hd,h.2⟩
 |a::ds,b::vs,d,v,i+1,h,hd=>⟨h.1,jm.set i h.2 hd⟩
theorem jm.length{c:Ctx}{w:World}{ds:List D}{vs:List Value}(h:jm c w ds vs):ds.length=vs.length:=(En.1 h).1
theorem Rep.cells{c:Ctx}{w:World}{d:D}{v:Value}(hd:d.isVal=true)(h:Rep c w d v):jm c w d.cells v.cells.toList:=by
 have one:∀d':D,cv c w d' v->jm c w [d'] v.cells.toList:=λd' h'=>by
  have h1:=h'.one
  have:v.cells= #[v]:=by cases v<;>first|rfl|(simp[Value.oneCell']at h1)
  rw[this]
  exact⟨h',trivial⟩
 cases d with
 |agg cs=>
  obtain⟨vs,hv,hr⟩:=h
  subst hv
  simpa[Value.cells,D.cells]using hr
 |dt ds=>simp[D.isVal]at hd
 |dead=>simp[D.isVal]at hd
 |_=>exact one _ h
theorem QF:∀{xs:List D} {ds:List D} {off:Nat},(lh ds off xs).length=ds.length
 |[],_,_=>rfl
 |x::xs,ds,off=>by unfold lh;rw[QF];simp
def pE:List Value->Nat->List Value->List Value
 |e,_,[]=>e
 |e,off,v::vs=>pE (e.set off v) (off+1) vs
theorem Qym{c:Ctx}{w:World}:∀{xs:List D} {us:List Value} {ds:List D} {vs:List Value} {off:Nat},jm c w ds vs->jm c w xs us->jm c w (lh ds off xs) (pE vs off us)
 |[],[],_,_,_,h,_=>h
 |[],_::_,_,_,_,_,h=>h.elim
 |_::_,[],_,_,_,_,h=>h.elim
 |x::xs,u::us,ds,vs,off,h,hx=>by unfold lh pE;exact Qym (h.set off hx.1) hx.2
theorem Qr8:∀(us:List Value) (k off:Nat) (cells:Array Value),
 ((us.zipIdx k).foldl (λcs (x:Value×Nat)=>cs.setIfInBounds (off+x.2) x.1) cells).toList=pE cells.toList (off+k) us
 |[],_,_,_=>by simp[pE]
 |u::us,k,off,cells=>by
  simp only[List.zipIdx_cons,List.foldl_cons,pE]
  rw[Qr8 us (k+1) off]
  simp[Array.toList_setIfInBounds,fY]
theorem Zi2(v:Value)(off:Nat)(cells:Array Value):
 (v.cells.zipIdx.foldl (λcs (x:Value×Nat)=>cs.setIfInBounds (off+x.2) x.1) cells).toList=pE cells.toList off v.cells.toList:=by
 rw[<-Array.foldl_toList,Array.toList_zipIdx]
 exact Qr8 v.cells.toList 0 off cells
theorem ZM{place:Nat->Option (Nat×Nat)}{ev:Operand->D}:∀{parts:List (Nat×Operand)} {ds:List D} {K:List D->Prop},Qv place ev parts ds K->
 ∃ om,K om/\∀c w (ρ:Operand->Value) (cells:Array Value),jm c w ds cells.toList->(∀p∈parts,Rep c w (ev p.2) (ρ p.2))->
  ∃ff,Instr.fill place cells (parts.map λp=>(p.1,ρ p.2))=some ff/\jm c w om ff.toList
 |[],ds,K,h=>⟨ds,D.fk.1 h,λc w ρ cells hr _=>⟨cells,rfl,hr⟩⟩
 |(i,x)::ps,ds,K,h=>by
  unfold Qv at h
  split at h
  ·rename_i off n hp
   simp only[da,aE]at h
   obtain⟨⟨⟨hv,hn⟩,hle⟩,h⟩:=h
   have hn:=bE hn
   have hle:=lE hle
   obtain⟨om,hK,hr⟩:=ZM h
   refine⟨om,hK,λc w ρ cells hc mh=>?_⟩
   have hx:=Rep.cells hv (mh (i,x) (by simp))
   have hlen:(ρ x).cells.size=n:=by rw[<-hn,hx.length];simp
   have fx:cells.size=ds.length:=by rw[hc.length];simp
   have fi:jm c w (lh ds off (ev x).cells) ((ρ x).cells.zipIdx.foldl (λcs (x:Value×Nat)=>cs.setIfInBounds (off+x.2) x.1) cells).toList:=by
    rw[Zi2];exact Qym hc hx
   obtain⟨ff,h1,h2⟩:=hr c w ρ _ fi (λp hp=>mh p (by simp[hp]))
   refine⟨ff,?_,h2⟩
   simp only[fR,Instr.fill,hp]
   rw[if_neg (by simp;omega)]
   exact h1
  ·exact h.elim
theorem Za5{v:Value}{d:D}(h:QG v=some d)(c:Ctx)(w:World):cv c w d v:=by
 cases v<;>simp only[QG]at h<;>first|(cases h;done)|skip
 case nilIface=>simp at h;subst h;rfl
 case nilFunc=>simp at h;subst h;rfl
 case bool b=>simp at h;subst h;rfl
 case int k n=>simp at h;subst h;rfl
 case string s=>simp at h;subst h;simp[cv]
 case pointer a=>cases a<;>simp at h;subst h;rfl
 case slice a n cp=>
  split at h
  all_goals first|(simp at h;subst h;simp_all [cv];done)|(simp_all;done)
theorem JQ:∀{vs:List Value} {ds:List D},By vs=some ds->∀(c:Ctx) (w:World),jm c w ds vs
 |[],ds,h,c,w=>by simp[By]at h;subst h;trivial
 |v ::vs,ds,h,c,w=>by
  simp only[By]at h
  split at h
  ·rename_i d l h1 h2
   simp at h;subst h
   exact⟨Za5 h1 c w,JQ h2 c w⟩
  ·cases h
theorem Nf{v:Value}{d:D}(h:Gc v=some d)(c:Ctx)(w:World):Rep c w d v:=by
 have one:QG v=some d->Rep c w d v:=λh=>by
  have:=Za5 h c w
  cases d<;>first|exact this|trivial|exact this.elim
 cases v with
 |agg cs=>
  simp only[Gc,fQ]at h
  obtain⟨ds,h1,h2⟩:=h
  subst h2
  exact⟨cs.toList,by simp,JQ h1 c w⟩
 |_=>exact one h
theorem JG{P:Program}{T:fq}(hT:jz P T){t:TypeId}{k:TK}{a b:Nat}{cs:List rb}{z:List D}{e:Bool}(h:T.get t=some ⟨k,a,b,cs,some z,e⟩):
 ∃i u,P.info? t=some i/\i.zero=some u/\By u.cells.toList=some z/\i.size=a/\i.bytes=b/\P.cellsOf t=a/\∀w,(zeroValue t).run P w=.ok u w:=by
 obtain⟨i,hi,hs,hb,hl,hk,hz,_⟩:=DH (hT.get h)
 simp only at hz hs hb
 have hz:=hz.symm
 simp only[Option.bind_eq_some_iff]at hz
 obtain⟨u,hu,hz⟩:=hz
 refine⟨i,u,hi,hu,hz,hs,hb,by simp[Program.cellsOf,hi,hs],λw=>?_⟩
 simp[zeroValue,typeInfo,hi,hu]
theorem Z8n{P:Program}(w:World):∀(fs:List Field),(∀f∈fs,0<P.cellsOf f.type)->
 (fs.mapM λf=>do pure (f.offset,<-sizeOf f.type):Sem (List (Nat×Nat))).run P w=.ok (fs.map λf=>(f.offset,P.cellsOf f.type)) w
 |[],_=>rfl
 |f::fs,h=>by
  simp only[List.mapM_cons,Sem.run_bind,Bz (h f (by simp)),Result.andThen_ok,Sem.run_pure,Z8n w fs (λg hg=>h g (by simp[hg])),fR]
theorem xS{P:Program}{T:fq}(hT:jz P T){t:TypeId}{parts:List (Nat×Operand)}{ev:Operand->D}{R:Rows}{K:D->Rows->Prop}(h:MG T t parts ev R K):
 ∃val,K val R/\∀c w (ρ:Operand->Value),(∀p∈parts,Rep c w (ev p.2) (ρ p.2))->Ge P (Instr.build t (parts.map λp=>(p.1,ρ p.2)).toArray) w c val:=by
 unfold MG at h
 split at h
 ·rename_i fs _ _ _ ds _ ht
  obtain⟨i,u,hi,hu,hz,_,_,_,hzero⟩:=JG hT ht
  obtain⟨gs,hd,NF⟩:=mX hT ht
  rw[da]at h
  obtain⟨uw,h⟩:=h
  have uw:∀f∈gs.toList,0<P.cellsOf f.type:=λf hf=>by
   have:=List.all_eq_true.1 uw (f.offset,f.type,P.cellsOf f.type) (by rw[NF];exact List.mem_map.2 ⟨f,hf,rfl⟩)
   exact lE this
  obtain⟨om,hK,hr⟩:=ZM h
  refine⟨_,hK,λc w ρ mh=>?_⟩
  obtain⟨ff,h1,h2⟩:=hr c w ρ u.cells (JQ hz c w) mh
  refine⟨.agg ff,?_,ff.toList,by simp,h2⟩
  have ZN:(gs.mapM λf=>do pure (f.offset,<-sizeOf f.type):Sem (Array (Nat×Nat))).run P w=.ok (gs.map λf=>(f.offset,P.cellsOf f.type)) w:=by
   have:=Z8n (P:=P) w gs.toList uw
   rw[<-bS (xs:=gs),List.mapM_toArray]
   simp only[Sem.run_map,this,Result.andThen_ok,bS]
   congr 1
   apply Array.ext'
   simp
  have DK:(λ(i:Nat)=>(gs.map λf=>(f.offset,P.cellsOf f.type))[i]?)=(λ(i:Nat)=>(fs[i]?).map λ(f:Nat×TypeId×Nat)=>(f.1,f.2.2)):=by
   funext i
   rw[NF]
   simp
   cases gs[i]? <;>rfl
  unfold Instr.build
  simp only[Sem.run_bind,hzero,Result.andThen_ok,run_underlying hd,ZN]
  rw[DK]
  simp only[h1,Sem.run_pure]
 ·rename_i m e iN _ _ _ ds _ ht
  obtain⟨i,u,hi,hu,hz,_,_,_,hzero⟩:=JG hT ht
  have hk:=mX hT ht
  simp only at hk
  rw[da]at h
  obtain⟨h0,h⟩:=h
  have h0:0<iN:=lE h0
  obtain⟨om,hK,hr⟩:=ZM h
  refine⟨_,hK,λc w ρ mh=>?_⟩
  obtain⟨ff,h1,h2⟩:=hr c w ρ u.cells (JQ hz c w) mh
  refine⟨.agg ff,?_,ff.toList,by simp,h2⟩
  unfold Instr.build
  simp only[Sem.run_bind,hzero,Result.andThen_ok,run_underlying hk.1,Bz (hk.2▸h0),hk.2]
  simp only[h1,Sem.run_pure]
 ·exact h.elim
def U6(c:Ctx)(w:World)(row:Row)(arr:Array Value):Prop:=
 0<row.sz/\if row.box then∃e,row.es=.gen [e]/\e.length=row.sz/\arr.size=row.sz/\kK c w e arr 0 else iJ c.I w row.es.l arr 0 row.sz
def UU(P:Program)(x:Sem Value)(w:World)(c:Ctx)(k:Nat)(row:Row)(d:D):Prop:=
 ∃u arr,x.run P w=.ok u (w.alloc (.cells arr row.ty))/\U6 c w row arr/\(c.R k=none->Mem c w->Rep (c.add k row w.heap.size) (w.alloc (.cells arr row.ty)) d u)
theorem Zgv{c:Ctx}{w:World}:∀{ds:List D} {vs:List Value} {pre:List Value},jm c w ds vs->kK c w ds (pre++vs).toArray pre.length
 |[],_,_,_=>trivial
 |d::ds,[],_,h=>h.elim
 |d::ds,v::vs,pre,h=>by
  refine⟨⟨v,by simp,h.1⟩,?_⟩
  have:=Zgv (pre:=pre++[v]) h.2
  simpa using this
theorem ZO{c:Ctx}{w:World}{t:TypeId}{sz:Nat}{ds:List D}{vs:Array Value}(h0:0<sz)(hl:ds.length=sz)(h:jm c w ds vs.toList):U6 c w ⟨true,t,sz,.gen [ds]⟩ vs:=by
 refine⟨h0,?_⟩
 simp only[if_true]
 refine⟨ds,rfl,hl,by rw[<-hl,h.length];simp,?_⟩
 have:=Zgv (pre:=[]) h
 simpa using this
theorem ZP(P:Program)(t:TypeId)(v:Value)(w:World):(newVar t v).run P w=.ok ⟨w.heap.size,0,none⟩ (w.alloc (.cells v.cells t)):=rfl
theorem Znl{P:Program}{T:fq}(hT:jz P T){t:TypeId}{k:TK}{sz b:Nat}{cs:List rb}{ds:List D}{e:Bool}(ht:T.get t=some ⟨k,sz,b,cs,some ds,e⟩)(h0:0<sz)(hl:ds.length=sz)(n:Nat)(c:Ctx)(w:World):
 UU P (Instr.alloc t true (.tuple #[])) w c n ⟨true,t,sz,.gen [ds]⟩ (.ptr n 0 0):=by
 obtain⟨i,u,hi,hu,hz,_,_,_,hzero⟩:=JG hT ht
 refine⟨.pointer (some ⟨w.heap.size,0,none⟩),u.cells,?_,ZO h0 hl (JQ hz c w),λ_ _=>?_⟩
 ·simp only[Instr.alloc,Sem.run_bind,hzero,Result.andThen_ok,ZP,Sem.run_pure]
 ·exact⟨_,(Ctx.ja _ _ _ _).1,by simp[Ctx.add],by simp[ao.len],by simp[(Ctx.ja _ _ _ _).2]⟩
theorem zaP{P:Program}{t:TypeId}{sz:Nat}{d:D}{v:Value}(h0:0<sz)(hv:d.isVal=true)(hl:d.cells.length=sz)(n:Nat)(c:Ctx)(w:World)(hr:Rep c w d v):
 UU P (Instr.box t v) w c n ⟨true,t,sz,.gen [d.cells]⟩ (.ptr n 0 0):=by
 refine⟨.pointer (some ⟨w.heap.size,0,none⟩),v.cells,?_,ZO h0 hl (Rep.cells hv hr),λ_ _=>?_⟩
 ·simp only[Instr.box,Sem.run_bind,ZP,Result.andThen_ok,Sem.run_pure]
 ·exact⟨_,(Ctx.ja _ _ _ _).1,by simp[Ctx.add],by simp[ao.len],by simp[(Ctx.ja _ _ _ _).2]⟩
theorem tW{I:ae}{w:World}:∀{cs:List D} {arr:Array Value} {off:Nat},nQ I w cs arr off↔ ∀j,j<cs.length->∃v,arr[off+j]?=some v/\fy I w (cs.getD j .dead) v
 |[],arr,off=>by simp[BP,Aq]
 |d ::cs,arr,off=>by
  simp only[BP,Aq,tW (cs:=cs)]
  constructor
  ·rintro⟨h1,h2⟩ j hj
   cases j with
   |zero=>simpa using h1
   |succ j=>
    have:=h2 j (by simpa using hj)
    rw[show off+1+j=off+(j+1) by omega]at this
    simpa using this
  ·intro h
   refine⟨by simpa using h 0 (by simp),λj hj=>?_⟩
   have:=h (j+1) (by simpa using hj)
   rw[show off+(j+1)=off+1+j by omega]at this
   simpa using this
theorem wh{I:ae}{w:World}:∀{es:List (List D)} {arr:Array Value} {off sz:Nat},iJ I w es arr off sz↔ ∀i,i<es.length->(es.getD i []).length=sz/\nQ I w (es.getD i []) arr (off+i*sz)
 |[],arr,off,sz=>by simp[pN,oi]
 |e ::es,arr,off,sz=>by
  simp only[pN,oi,wh (es:=es)]
  constructor
  ·rintro⟨h1,h2,h3⟩ i hi
   cases i with
   |zero=>simpa using⟨h1,h2⟩
   |succ i=>
    have:=h3 i (by simpa using hi)
    rw[show off+sz+i*sz=off+(i+1)*sz by rw[aW];omega]at this
    simpa using this
  ·intro h
   have h0:=h 0 (by simp)
   simp at h0
   refine⟨h0.1,h0.2,λi hi=>?_⟩
   have:=h (i+1) (by simpa using hi)
   rw[show off+(i+1)*sz=off+sz+i*sz by rw[aW];omega]at this
   simpa using this
theorem Z8{c:Ctx}{w:World}:∀{cs:List D} {arr:Array Value} {off:Nat},kK c w cs arr off↔ ∀j,j<cs.length->∃v,arr[off+j]?=some v/\cv c w (cs.getD j .dead) v
 |[],arr,off=>by simp[kK]
 |d ::cs,arr,off=>by
  simp only[kK,Z8 (cs:=cs)]
  constructor
  ·rintro⟨h1,h2⟩ j hj
   cases j with
   |zero=>simpa using h1
   |succ j=>
    have:=h2 j (by simpa using hj)
    rw[show off+1+j=off+(j+1) by omega]at this
    simpa using this
  ·intro h
   refine⟨by simpa using h 0 (by simp),λj hj=>?_⟩
   have:=h (j+1) (by simpa using hj)
   rw[show off+(j+1)=off+1+j by omega]at this
   simpa using this
theorem QH:∀{us vs:List Value} {off k:Nat},off+us.length<=vs.length->(pE vs off us)[k]?=if off<=k/\k<off+us.length then us[k-off]? else vs[k]?
 |[],vs,off,k,_=>by
  have:¬(off<=k/\k<off):=by omega
  simp[pE,this]
 |u ::us,vs,off,k,h=>by
  simp only[dI]at h
  unfold pE
  rw[QH (us:=us) (by simp;omega)]
  by_cases h1:off+1<=k/\k<off+1+us.length
  ·rw[if_pos h1,if_pos (by simp;omega)]
   rw[show k-off=(k-(off+1))+1 by omega]
   simp
  ·rw[if_neg h1]
   by_cases h2:k=off
   ·subst h2
    rw[if_pos (by simp)]
    simp only[gD,gE]
    rw[gG (by omega)]
   ·rw[if_neg (by simp;omega),gH (by omega)]
theorem U7:∀{us vs:List Value} {off:Nat},(pE vs off us).length=vs.length
 |[],_,_=>rfl
 |u::us,vs,off=>by unfold pE;rw[U7];simp
theorem HD:∀{us vs:List D} {off k:Nat},off+us.length<=vs.length->(lh vs off us)[k]?=if off<=k/\k<off+us.length then us[k-off]? else vs[k]?
 |[],vs,off,k,_=>by
  have:¬(off<=k/\k<off):=by omega
  simp[lh,this]
 |u ::us,vs,off,k,h=>by
  simp only[dI]at h
  unfold lh
  rw[HD (us:=us) (by simp;omega)]
  by_cases h1:off+1<=k/\k<off+1+us.length
  ·rw[if_pos h1,if_pos (by simp;omega)]
   rw[show k-off=(k-(off+1))+1 by omega]
   simp
  ·rw[if_neg h1]
   by_cases h2:k=off
   ·subst h2
    rw[if_pos (by simp)]
    simp only[gD,gE]
    rw[gG (by omega)]
   ·rw[if_neg (by simp;omega),gH (by omega)]
theorem cv.plain{c:Ctx}{w:World}{d:D}{v:Value}(hp:d.plain=true)(h:cv c w d v):fy c.I w d v:=by
 cases d<;>(try(simp[D.plain]at hp;done))
 case bool=>exact sr.2 h
 case int=>exact rP.2 h
 case str=>exact ss.2 h
 case iM=>exact su.2 h
 case du=>exact sw.2 h
 case emp=>exact sx.2 (let⟨a,g,_⟩:=h;⟨a,g⟩)
 obtain⟨a,cap,hv,hc,ij⟩:=h
 refine tD.2 ⟨a,cap,hv,hc,?_⟩
 rcases ij with ij|⟨b,off,arr,ty,fz,ha,hI,hf,hh,hE⟩
 ·exact .inl ij
 ·exact .inr ⟨b,off,arr,ty,fz,ha,hI,hh,S0.2 hE⟩
theorem Qyv{c:Ctx}{w:World}{es:List (List D)}{arr:List Value}{sz i off:Nat}{xs:List D}{us:List Value}(h:iJ c.I w es arr.toArray 0 sz)(hi:i<es.length)(QI:off+xs.length<=sz)
 (hx:jm c w xs us) (hp:xs.all D.plain=true) (ha:i*sz+sz<=arr.length):iJ c.I w (es.set i (lh (es.getD i []) off xs)) (pE arr (i*sz+off) us).toArray 0 sz:=by
 have hlen:=hx.length
 rw[wh]at h⊢
 intro k hk
 have EE:k<es.length:=by simpa using hk
 obtain⟨h1,h2⟩:=h k EE
 rw[tW]at h2
 by_cases nZ:k=i
 ·subst nZ
  have he:(es.set k (lh (es.getD k []) off xs)).getD k []=lh (es.getD k []) off xs:=by simp[aK,EE]
  rw[he]
  refine⟨by rw[QF];exact h1,?_⟩
  rw[tW]
  intro j hj
  rw[QF,h1]at hj
  have hg:(lh (es.getD k []) off xs).getD j .dead=if off<=j/\j<off+xs.length then(xs.getD (j-off) .dead)else(es.getD k []).getD j .dead:=by
   simp only[aK]
   rw[HD (by simp only[aK]at h1;omega)]
   split<;>rfl
  have hv:(pE arr (k*sz+off) us).toArray[0+k*sz+j]?=if off<=j/\j<off+xs.length then us[j-off]? else arr[k*sz+j]? :=by
   simp only[aY,aX]
   rw[QH (by omega)]
   by_cases hc:off<=j/\j<off+xs.length
   ·rw[if_pos (by omega),if_pos hc];congr 1;omega
   ·rw[if_neg (by omega),if_neg hc]
  rw[hg,hv]
  split
  ·rename_i hc
   have QJ:j-off<us.length:=by omega
   have ZN:(xs.getD (j-off) .dead).plain=true:=by
    have hm:xs.getD (j-off) .dead∈xs:=by
     simp only[aK,cG (show j-off<xs.length by omega),aG]
     exact fI _
    exact List.all_eq_true.1 hp _ hm
   exact⟨us[j-off],cG QJ,cv.plain ZN ((En.1 hx).2 _ _ (cG QJ))⟩
  ·obtain⟨v,JN,MA⟩:=h2 j (by rw[h1];exact hj)
   exact⟨v,by simpa using JN,MA⟩
 ·have he:(es.set i (lh (es.getD i []) off xs)).getD k []=es.getD k []:=by
   simp[aK,gH (Ne.symm nZ)]
  rw[he]
  refine⟨h1,?_⟩
  rw[tW]
  intro j hj
  obtain⟨v,JN,MA⟩:=h2 j hj
  refine⟨v,?_,MA⟩
  simp only[aY,aX]at JN⊢
  rw[QH (by omega),if_neg]
  ·exact JN
  ·rw[h1]at hj
   rintro⟨g1,g2⟩
   rcases Nat.lt_or_gt_of_ne nZ with cg|cg
   ·have:=aV sz (show k+1<=i by omega)
    rw[aW]at this
    omega
   ·have:=aV sz (show i+1<=k by omega)
    rw[aW]at this
    omega
theorem Z2p{I:ae}{w:World}{es:List (List D)}{arr:Array Value}{sz i:Nat}(h:iJ I w es arr 0 sz)(h0:0<sz)(hi:i<es.length):i*sz+sz<=arr.size:=by
 obtain⟨h1,h2⟩:=wh.1 h i hi
 obtain⟨v,hv,_⟩:=tW.1 h2 (sz-1) (by omega)
 have:=(Array.getElem?_eq_some_iff.1 hv).1
 omega
def Ctx.jB(c:Ctx)(r:Nat)(row:Row):Ctx:={c with R:=λs=>if s=r then some row else c.R s}
theorem SG(w:World)(g:Nat)(cs:Array Value):Fr (λb=>b=g) w (w.setRow g cs):=
 ⟨rfl,rfl,rfl,by simp[World.setRow],λb _ hb=>setRow_other w g b cs hb⟩
theorem Mem.write{c:Ctx}{w:World}(hm:Mem c w){r:Nat}{row ak:Row}{jA arr:Array Value}(hr:c.R r=some row)(hV:¬c.V r)(hh:w.heap[c.ρ r]?=some (.cells jA row.ty (0,0)))(fx:arr.size=jA.size)
 (h1:ak.box=row.box) (h2:ak.ty=row.ty) (h3:ak.sz=row.sz) (h4:ak.es.l.length=row.es.l.length):
 jk c w (c.jB r ak) (w.setRow (c.ρ r) arr)/\(U6 (c.jB r ak) (w.setRow (c.ρ r) arr) ak arr->Mem (c.jB r ak) (w.setRow (c.ρ r) arr)):=by
 have fi:(w.setRow (c.ρ r) arr).heap[c.ρ r]?=some (.cells arr row.ty (0,0)):=setRow_heap w _ _ _ _ _ hh
 have CI:∀s x,c.R s=some x->¬c.V s->s≠r->(w.setRow (c.ρ r) arr).heap[c.ρ s]?=w.heap[c.ρ s]? :=λs x hs hv gl=>setRow_other w _ _ _ (λe=>gl (hm.inj s r x row hs hr hv hV e))
 have hg:jk c w (c.jB r ak) (w.setRow (c.ρ r) arr):=by
  refine⟨rfl,aO _,λb hb=>⟨hb,setRow_other w _ _ _ (λe=>(hm.fu b hb).2 r row hr hV e.symm)⟩,λs x hs=>?_⟩
  by_cases e:s=r
  ·subst e
   rw[hr]at hs;cases hs
   exact⟨ak,by simp[Ctx.jB],h1,h2,h3,h4,rfl,Iff.rfl,λ_ a ha=>⟨arr,fi,by rw[hh]at ha;cases ha;exact fx⟩⟩
  ·exact⟨x,by simp[Ctx.jB,e,hs],rfl,rfl,rfl,rfl,rfl,Iff.rfl,λnv a ha=>⟨a,by rw[CI s x hs nv e];exact ha,rfl⟩⟩
 refine⟨hg,λhi=>⟨λs x hs=>?_,λs q x y hs hq v1 v2 he=>?_,λb hb=>?_,by show c.top<=(w.setRow _ _).heap.size;simpa[World.setRow]using hm.top,hm.kN.mono hg.I⟩⟩
 ·by_cases e:s=r
  ·subst e
   simp only[Ctx.jB,if_true,Option.some.injEq]at hs
   subst hs
   exact .inr ⟨hV,arr,by rw[h2];exact fi,hi.1,hi.2⟩
  ·have ji:c.R s=some x:=by simpa[Ctx.jB,e]using hs
   exact tX hg rfl Iff.rfl (λnv=>CI s x ji nv e) (hm.row s x ji)
 ·have jA:∀s x,(c.jB r ak).R s=some x->∃x',c.R s=some x':=λs x hs=>by
   by_cases e:s=r
   ·exact⟨row,by rw[e];exact hr⟩
   ·exact⟨x,by simpa[Ctx.jB,e]using hs⟩
  obtain⟨x',jE⟩:=jA s x hs
  obtain⟨y',Ao⟩:=jA q y hq
  exact hm.inj s q x' y' jE Ao v1 v2 he
 ·obtain⟨g1,g2⟩:=hm.fu b hb
  refine⟨by simpa[World.setRow]using g1,λs x hs hv=>?_⟩
  by_cases e:s=r
  ·subst e;exact g2 s row hr hV
  ·exact g2 s x (by simpa[Ctx.jB,e]using hs) hv
theorem Zko{P:Program}{t:TypeId}{n:Nat}(hs:P.cellsOf t=n)(h0:0<n){w:World}{g o:Nat}{ty:TypeId}{cur:Array Value}(hg:w.heap[g]?=some (.cells cur ty (0,0))){v:Value}(hn:v.cells.size=n)(hr:o+n<=cur.size)(h1:∀u∈v.cells.toList,u.oneCell'=true):
 (Instr.storeAt t (.pointer (some ⟨g,o,none⟩)) v).run P w=.ok () (w.setRow g (pE cur.toList o v.cells.toList).toArray):=by
 have h:=run_storeCells_at (P:=P) g o ty v.cells.toList 0 cur w hg (by simp;omega) h1
 have gl:¬v.cells.size≠P.cellsOf t:=by omega
 simp only[Instr.storeAt,Instr.sureAddr,Sem.run_bind,Sem.run_pure,Result.andThen_ok,storeVar,Bz (hs▸h0),Sem.run_ite,gl,if_false,h]
 congr 3
 apply gI
 intro k
 rw[QH (by simp;omega)]
 simp only[bG,Array.length_toList]
 by_cases hc:o<=k/\k<o+v.cells.size
 ·rw[if_pos hc,fF,bB (by simp;omega),aZ (by simp;omega)]
  congr 1;simp;omega
 ·rw[if_neg hc]
  by_cases hk:k<o
  ·rw[fF,aZ (by simp;omega),List.getElem?_take_of_lt hk]
  ·rw[bB (by simp;omega),List.getElem?_drop]
   congr 1;simp;omega
theorem jm.one{c:Ctx}{w:World}:∀{ds:List D} {vs:List Value},jm c w ds vs->∀u∈vs,u.oneCell'=true
 |[],[],_,_,h=>by simp at h
 |d::ds,v::vs,h,u,hu=>by
  rcases List.mem_cons.1 hu with e|e
  ·subst e;exact cv.one h.1
  ·exact jm.one h.2 u e
theorem Zft{c:Ctx}{w:World}{e:List D}{arr:List Value}{off:Nat}{xs:List D}{us:List Value}(h:kK c w e arr.toArray 0)(QI:off+xs.length<=e.length)(he:e.length=arr.length)
 (hx:jm c w xs us):kK c w (lh e off xs) (pE arr off us).toArray 0:=by
 have hlen:=hx.length
 rw[Z8]at h⊢
 intro j hj
 rw[QF]at hj
 simp only[aK,aY,aX]at h⊢
 rw[HD QI,QH (by omega)]
 by_cases hc:off<=j/\j<off+xs.length
 ·rw[if_pos hc,if_pos (by omega)]
  have QJ:j-off<us.length:=by omega
  exact⟨us[j-off],cG QJ,(En.1 hx).2 _ _ (cG QJ)⟩
 ·rw[if_neg hc,if_neg (by omega)]
  exact h j hj
def te(P:Program)(x:Sem Unit)(w:World)(c:Ctx)(R':Rows):Prop:=
 ∃r ak arr w',x.run P w=.ok () w'/\w'=w.setRow (c.ρ r) arr/\(∃row,c.R r=some row)/\¬c.V r/\jk c w (c.jB r ak) w'/\Mem (c.jB r ak) w'/\∀s,(c.jB r ak).R s=R'.getD s none
theorem Z8l{k:IntKind}{l:List Int}:∀{n j i:Nat},i<n->(HE k l j n)[i]?=some (.int k (l.getD (j+i) 0))
 |n+1,j,0,_=>by simp[HE]
 |n+1,j,i+1,h=>by
  have:=Z8l (k:=k) (l:=l) (n:=n) (j:=j+1) (i:=i) (by omega)
  rw[show j+1+i=j+(i+1) by omega]at this
  simpa[HE]using this
theorem ZQ{k:IntKind}{l:List Int}:∀{n j:Nat},(HE k l j n).length=n
 |0,_=>rfl
 |n+1,j=>by simp[HE,ZQ (n:=n)]
theorem Z9j{l:List Bool}:∀{n j i:Nat},i<n->(HF l j n)[i]?=some (.bool (l.getD (j+i) false))
 |n+1,j,0,_=>by simp[HF]
 |n+1,j,i+1,h=>by
  have:=Z9j (l:=l) (n:=n) (j:=j+1) (i:=i) (by omega)
  rw[show j+1+i=j+(i+1) by omega]at this
  simpa[HF]using this
theorem ZR{l:List Bool}:∀{n j:Nat},(HF l j n).length=n
 |0,_=>rfl
 |n+1,j=>by simp[HF,ZR (n:=n)]
theorem Z3d{e:List D}:∀{n off:Nat},(ints e off n).length=n
 |0,_=>rfl
 |n+1,off=>by simp[ints,Z3d (n:=n)]
theorem Qz2{e:List D}:∀{n off:Nat},(bo e off n).length=n
 |0,_=>rfl
 |n+1,off=>by simp[bo,Qz2 (n:=n)]
theorem Wt{R:Rows}{r:Nat}{row ak:Row}(h:R.getD r none=some row)(s:Nat):(R.set r (some ak)).getD s none=if s=r then some ak else R.getD s none:=by
 have cg:r<R.length:=by
  by_cases hl:r<R.length
  ·exact hl
  ·rw[aK,aM (by omega)]at h;cases h
 by_cases e:s=r
 ·subst e
  simp[aK,cg]
 ·simp[aK,e,gH (Ne.symm e)]
theorem Zm{P:Program}{t:TypeId}{n:Nat}(ko:P.cellsOf t=n)(h0:0<n){R:Rows}{r i off:Nat}{box:Bool}{ty:TypeId}{sz:Nat}{es jc:ao}{d:D}
 (hR:R.getD r none=some ⟨box,ty,sz,es⟩) (hv:d.isVal=true) (hn:d.cells.length=n) (hle:off+n<=sz) (hp:box=false->d.cells.all D.plain=true)
 {c:Ctx} {w:World} {v:Value} (hm:Mem c w) (hA:∀r,c.R r=R.getD r none) (hV:¬c.V r) (hi:i<es.l.length) (ij:jc.l=es.l.set i (lh (es.l.getD i []) off d.cells)) (wX:box=true->jc=.gen [lh (es.get i) off d.cells]) (hd:Rep c w d v):
 te P (Instr.storeAt t (.pointer (some ⟨c.ρ r,i*sz+off,none⟩)) v) w c (R.set r (some ⟨box,ty,sz,jc⟩)):=by
 have g1:c.R r=some ⟨box,ty,sz,es⟩:=by rw[hA];exact hR
 have hx:=Rep.cells hv hd
 obtain⟨jA,ho,hs,hb⟩:=hm.real g1 hV
 have hvn:v.cells.size=n:=by rw[<-hn,hx.length];simp
 simp only at ho hs hb
 have fin:∀ak:Row,ak=⟨box,ty,sz,jc⟩->i*sz+off+n<=jA.size->
  (∀c' w',jk c w c' w'->if ak.box then∃e,ak.es=.gen [e]/\e.length=ak.sz/\(pE jA.toList (i*sz+off) v.cells.toList).toArray.size=ak.sz/\kK c' w' e (pE jA.toList (i*sz+off) v.cells.toList).toArray 0
   else iJ c'.I w' ak.es.l (pE jA.toList (i*sz+off) v.cells.toList).toArray 0 ak.sz)->te P (Instr.storeAt t (.pointer (some ⟨c.ρ r,i*sz+off,none⟩)) v) w c (R.set r (some ak)):=by
  intro ak cb fx fi
  have ig:=Zko (P:=P) ko h0 (o:=i*sz+off) ho hvn fx hx.one
  have PS:(pE jA.toList (i*sz+off) v.cells.toList).toArray.size=jA.size:=by simp[U7]
  have hw:=hm.write (ak:=ak) g1 hV ho PS (by rw[cb]) (by rw[cb]) (by rw[cb]) (by rw[cb];simp only[ij,List.length_set])
  refine⟨r,ak,_,_,ig,rfl,⟨_,g1⟩,hV,hw.1,hw.2 ⟨by rw[cb];exact hs,fi _ _ hw.1⟩,λs=>?_⟩
  rw[Wt hR]
  simp only[Ctx.jB]
  split
  ·rfl
  ·exact hA s
 cases box with
 |true=>
  simp only[if_true]at hb
  obtain⟨e,k1,k2,k3,k4⟩:=hb
  rw[k1]at hi ij wX
  have rO:i=0:=by simpa[ao.l]using hi
  subst rO
  simp only[cM,aX]at fin⊢
  refine fin _ rfl (by omega) λc' w' hg=>?_
  simp only[if_true]
  refine⟨lh e off d.cells,wX rfl,by rw[QF];exact k2,by simp[U7,k3],Ns hg (Zft (by simpa using k4) (by omega) (by simp;omega) hx)⟩
 |false=>
  simp only[aN,if_false]at hb
  have kP:=Z2p hb hs hi
  refine fin _ rfl (by omega) λc' w' hg=>?_
  simp only[aN,if_false]
  rw[ij]
  exact od hg.I _ _ _ _ (Qyv (c:=c) (by simpa using hb) hi (by omega) hx (hp rfl) (by simpa using kP))
theorem xaP{k:IntKind}{e:List D}{off len n:Nat}{v:Int}(h:CR k e off len=true)(hl:off+len<=e.length)(hn:n<len):
 lh e off (HE k ((ints e off len).set n v) 0 len)=lh e (off+n) [.int k v]:=by
 apply gI
 intro j
 rw[HD (by rw[ZQ];omega),HD (by simp;omega)]
 simp only[ZQ,dI,dJ]
 by_cases h1:off<=j/\j<off+len
 ·rw[if_pos h1,Z8l (by omega)]
  by_cases h2:j=off+n
  ·subst h2
   rw[if_pos (by omega)]
   simp[aK,Z3d,show off+n-off=n by omega,hn]
  ·rw[if_neg (by omega)]
   have hg:=UM (e:=e) (off:=off) (show j-off<len by omega)
   have hi:=D.j6 (UO h (show j-off<len by omega))
   rw[show off+(j-off)=j by omega]at hg hi
   have hj:e[j]?=some e[j]:=cG (by omega)
   simp only[aK,hj,aG]at hg hi
   rw[hj]
   simp only[aK,aX]
   rw[gH (by omega)]
   rw[hg,<-hi]
 ·rw[if_neg h1,if_neg (by omega)]
theorem xax{e:List D}{off len n:Nat}{v:Bool}(h:Hx e off len=true)(hl:off+len<=e.length)(hn:n<len):
 lh e off (HF ((bo e off len).set n v) 0 len)=lh e (off+n) [.bool v]:=by
 apply gI
 intro j
 rw[HD (by rw[ZR];omega),HD (by simp;omega)]
 simp only[ZR,dI,dJ]
 by_cases h1:off<=j/\j<off+len
 ·rw[if_pos h1,Z9j (by omega)]
  by_cases h2:j=off+n
  ·subst h2
   rw[if_pos (by omega)]
   simp[aK,Qz2,show off+n-off=n by omega,hn]
  ·rw[if_neg (by omega)]
   have hg:=UN (e:=e) (off:=off) (show j-off<len by omega)
   have hi:=D.j7 (UP h (show j-off<len by omega))
   rw[show off+(j-off)=j by omega]at hg hi
   have hj:e[j]?=some e[j]:=cG (by omega)
   simp only[aK,hj,aG]at hg hi
   rw[hj]
   simp only[aK,aX]
   rw[gH (by omega)]
   rw[hg,<-hi]
 ·rw[if_neg h1,if_neg (by omega)]
theorem Zp9{P:Program}{T:fq}(hT:jz P T){t:TypeId}{x d:D}{R:Rows}{K:D->Rows->Prop}(h:HG T t x d R K):
    ∃R',K .dead R'/\ ∀c w a v,Mem c w->(∀r,c.R r=R.getD r none)->Rep c w x a->Rep c w d v->te P (Instr.storeAt t a v) w c R':=by
  unfold HG at h
  cases ht:T.get t with
  |none=>simp only[ht]at h
  | some ti =>
    simp only[ht]at h
    obtain⟨i0,rO,EH,_,Bn,Ap,_⟩:=DH (hT.get ht)
    have ko:P.cellsOf t=ti.size:=by simp [Program.cellsOf,rO,EH]
    cases x<;>simp only at h
    case ptr r i off=>
      cases hR:R.getD r none with
      |none=>simp only[hR]at h
      | some row=>
        obtain⟨box,ty,sz,es⟩:=row
        simp only[hR,da,aE]at h
        obtain⟨⟨⟨⟨h0,hv⟩,hn⟩,hle⟩,h⟩:=h
        have h0:0<ti.size:=lE h0
        have hn:=bE hn
        have hle:=lE hle
        have go: ∀jc:ao,(box=false->d.cells.all D.plain=true)-> ∀c w a v,Mem c w->(∀r,c.R r=R.getD r none)->Rep c w (.ptr r i off) a->Rep c w d v->
            (∃row:Row,c.R r=some row/\row=⟨box,ty,sz,es⟩/\ ¬c.V r/\i<es.l.length)/\(jc.l=es.l.set i (lh (es.l.getD i []) off d.cells)->(box=true->jc= .gen [lh (es.get i) off d.cells])->te P (Instr.storeAt t a v) w c (R.set r (some ⟨box,ty,sz,jc⟩))):=by
          intro jc hp c w a v hm hA ha hd
          obtain⟨row,g1,gV,g2,ha⟩:=ha
          have cb:row=⟨box,ty,sz,es⟩:=by rw[hA,hR]at g1;exact(Option.some.inj g1).symm
          subst cb
          subst ha
          exact⟨⟨_,g1,rfl,gV,g2⟩,λhe wX=>Zm ko h0 hR hv hn hle hp hm hA gV g2 he wX hd⟩
        cases box with
        | true=>
          simp only[D.fk,nn]at h
          refine⟨_,h,λc w a v hm hA ha hd=> ?_⟩
          obtain⟨⟨row,g1,cb,gV,g2⟩,hw⟩:=go (.gen [lh (es.get i) off d.cells]) (by simp) c w a v hm hA ha hd
          subst cb
          obtain⟨jA,ho,hs,hb⟩:=hm.real g1 gV
          simp only[if_true]at hb
          obtain⟨e,k1,k2,k3,k4⟩:=hb
          have iX:=ao.nq es (show i<es.len by simpa using g2)
          refine hw ?_ (λ_=>rfl)
          rw[<-iX,k1]
          rw[k1]at g2
          have rO:i=0:=by simpa [ao.l] using g2
          subst rO
          rfl
        | false=>
          simp only[nn]at h
          refine⟨_,h.2,λc w a v hm hA ha hd=> ?_⟩
          obtain⟨⟨row,g1,cb,gV,g2⟩,hw⟩:=go _ (λ_=>h.1) c w a v hm hA ha hd
          exact hw (by rw[ao.QK,ao.nq es (show i<es.len by simpa using g2)]) (by simp)
    case pa r i off len k n=>
      cases hR:R.getD r none with
      |none=>simp only[hR]at h
      | some row=>
        obtain⟨box,ty,sz,es⟩:=row
        simp only[hR,da,aE]at h
        obtain⟨⟨pn,hle⟩,h⟩:=h
        subst pn
        have hle:=lE hle
        have go: ∀(x:D) (xs:List D),x.isVal=true->x.cells=[x]->ti.size=1->(n<len->off+len<=(es.get i).length->lh (es.get i) off xs=lh (es.get i) (off+n) [x])-> ∀c w a v,Mem c w->(∀r,c.R r=R.getD r none)->Rep c w (.pa r i off len k n) a->Rep c w x v->
            te P (Instr.storeAt t a v) w c (R.set r (some ⟨true,ty,sz, .gen [lh (es.get i) off xs]⟩)):=by
          intro x xs hv hc fx heq c w a v hm hA ha hd
          obtain⟨hn,row,g1,gV,g2,ha⟩:=ha
          have cb:row=⟨true,ty,sz,es⟩:=by rw[hA,hR]at g1;exact(Option.some.inj g1).symm
          subst cb
          subst ha
          obtain⟨jA,ho,hs,hb⟩:=hm.real g1 gV
          simp only[if_true]at hb
          obtain⟨e,k1,k2,k3,k4⟩:=hb
          simp only at g2
          have iX:=ao.nq es (show i<es.len by simpa using g2)
          have hlen:(es.get i).length=sz:=by
            rw[<-iX,k1]
            rw[k1]at g2
            have rO:i=0:=by simpa [ao.l] using g2
            subst rO
            exact k2
          refine Zm (off:=off+n) ko (by omega) hR hv (by rw[hc,fx];rfl) (by omega) (by simp) hm hA gV g2 ?_ (λ_=>by rw[hc,heq hn (by omega)]) hd
          rw[iX,hc,heq hn (by omega)]
          rw[k1]at g2⊢
          have rO:i=0:=by simpa [ao.l] using g2
          subst rO
          rfl
        split at h
        . rename_i j k' k'' v hk
          simp only[decide_eq_true_eq,D.fk,nn]at h
          obtain⟨⟨⟨rfl,rfl⟩,iR⟩,h⟩:=h
          refine⟨_,h,λc w a u hm hA ha hd=>go (.int _ v) _ rfl rfl (UQ (hT.get ht) (by rw[hk];simp [TK.isAgg])) (λhn hl=>xaP iR hl hn) c w a u hm hA ha hd⟩
        . rename_i v hk
          simp only[D.fk,nn]at h
          obtain⟨iR,h⟩:=h
          refine⟨_,h,λc w a u hm hA ha hd=>go (.bool v) _ rfl rfl (UQ (hT.get ht) (by rw[hk];simp [TK.isAgg])) (λhn hl=>xax iR hl hn) c w a u hm hA ha hd⟩
        . exact h.elim
def sv:D->Value
 |.int k n=>.int k n
 |.bool b=>.bool b
 |.str s=>.string ⟨s.toArray⟩
 |_=>undef
def pV(xs:Array Value)(o:Nat)(az:List D):Prop:=∀j d,az[j]?=some d->xs[o+j]?=some (sv d)
theorem QL:∀{t u:List rb} {l:List D},fits (t++u) l=true->∃a b,l=a++b/\fits t a=true/\fits u b=true/\a.length=t.length
 |[],u,l,h=>⟨[],l,rfl,rfl,h,rfl⟩
 |c::t,u,[],h=>by cases c<;>simp[fits]at h
 |c ::t,u,d::l,h=>by
  cases c<;>simp only[cD,fits,aE,aN]at h
  all_goals
   obtain⟨a,b,h1,h2,h3,h4⟩:=QL h.2
   exact⟨d::a,b,by rw[h1];rfl,by simp[fits,h.1,h2],h3,by simp[h4]⟩
theorem sY:∀{t:List rb} {l:List D},fits t l=true->l.length=t.length
 |[],[],_=>rfl
 |[],_::_,h=>by simp[fits]at h
 |c::t,[],h=>by cases c<;>simp[fits]at h
 |c::t,d::l,h=>by
  cases c<;>simp only[fits,aE,aN]at h
  all_goals simp[sY h.2]
theorem ZS:∀{a b a' b':List D},a.length=b.length->eqs (a++a') (b++b')=(eqs a b&&eqs a' b')
 |[],[],_,_,_=>by simp[eqs]
 |x::a,y::b,a',b',h=>by
  simp only[cD,eqs]
  rw[ZS (by simpa using h),Bool.and_assoc]
theorem Hz{P:Program}{t:TypeId}{d:TypeDesc}(hd:P.underlying t=some d)(ha:P2 d=false){xs:Array Value}{o:Nat}{v:Value}(hv:xs[o]?=some v)(w:World):(part t xs o).run P w=.ok v w:=by
 unfold part
 rw[Sem.run_bind,ZC hd,My hd,ha,Result.andThen_ok]
 simp[hv]
theorem UW{P:Program}{t:TypeId}{d:TypeDesc}(hd:P.underlying t=some d)(ha:P2 d=true)(h0:0<P.cellsOf t)(xs:Array Value)(o:Nat)(w:World):
 (part t xs o).run P w=.ok (.agg (xs.extract o (o+P.cellsOf t))) w:=by
 unfold part
 rw[Sem.run_bind,ZC hd,My hd,ha,Result.andThen_ok]
 simp only[if_true,Sem.run_bind,Bz h0,Result.andThen_ok,Sem.run_pure]
theorem pV.extract{xs:Array Value}{o:Nat}{az:List D}{n:Nat}(h:pV xs o az)(hn:az.length<=n):pV (xs.extract o (o+n)) 0 az:=by
 intro j d hj
 have cg:=(List.getElem?_eq_some_iff.1 hj).1
 have:=h j d hj
 have hx:=(Array.getElem?_eq_some_iff.1 this).1
 simp only[aX,Array.getElem?_extract]
 rw[if_pos (by omega)]
 exact this
theorem pV.left{xs:Array Value}{o:Nat}{a b:List D}(h:pV xs o (a++b)):pV xs o a:=λj d hj=>h j d (by rw[aZ (List.getElem?_eq_some_iff.1 hj).1];exact hj)
theorem pV.right{xs:Array Value}{o:Nat}{a b:List D}(h:pV xs o (a++b)):pV xs (o+a.length) b:=λj d hj=>by
 rw[fY];exact h (a.length+j) d (by rw[bB (by omega)];simpa using hj)
def oC(t:TypeId)(m:Nat)(xs ys:Array Value)(o:Nat):Sem Bool:=do
 let a<-part t xs o
 let b<-part t ys o
 Op.equalIn m t a b
theorem Z8g{P:Program}{n m:Nat}(ih:∀t,rF P n t=true->P.cellsOf t=(mg P n t).length->0<P.cellsOf t->∀(xs ys:Array Value) (o:Nat) (az bs:List D) (w:World),fits (mg P n t) az=true->fits (mg P n t) bs=true->pV xs o az->pV ys o bs->
 (oC t m xs ys o).run P w=.ok (eqs az bs) w):
 ∀ (fs:List Field) (o:Nat) (az bs:List D) (xs ys:Array Value) (w:World),UH P (rF P n) (λu=>(mg P n u).length) fs o=true->fits (fs.flatMap λf=>mg P n f.type) az=true->fits (fs.flatMap λf=>mg P n f.type) bs=true->
  pV xs o az->pV ys o bs->(Op.eqFields m xs ys fs).run P w=.ok (eqs az bs) w
 |[],o,az,bs,xs,ys,w,_,ha,hb,_,_=>by
  have h1:=sY ha
  have h2:=sY hb
  simp at h1 h2
  subst h1;subst h2
  simp[Op.eqFields,eqs]
 |f ::fs,o,az,bs,xs,ys,w,ho,ha,hb,sa,sb=>by
  simp only[UH,aE]at ho
  obtain⟨⟨⟨⟨⟨h1,h2⟩,h3⟩,h4⟩,h5⟩,h6⟩:=ho
  have h2:=bE h2
  have h3:=bE h3
  have h4:0<(mg P n f.type).length:=lE h4
  simp only[List.flatMap_cons]at ha hb
  obtain⟨a1,a2,rfl,ZT,ZU,la⟩:=QL ha
  obtain⟨b1,b2,rfl,ZV,ZW,lb⟩:=QL hb
  have iY:=ih f.type h5 h3 (by omega) xs ys o a1 b1 w ZT ZV sa.left sb.left
  have w9:=Z8g ih fs (o+(mg P n f.type).length) a2 b2 xs ys w h6 ZU ZW (by rw[<-la];exact sa.right) (by rw[<-lb];exact sb.right)
  have gl:f.name≠ "_" :=by simpa using h1
  simp only[Op.eqFields,gl,ne_eq,not_false_eq_true,if_true,h2]
  unfold oC at iY
  rw[ZS (by omega)]
  rw[Sem.run_bind]at iY⊢
  cases hp:(part f.type xs o).run P w with
  |halt x w1=>rw[hp]at iY;simp at iY
  |ok a w1=>
   rw[hp]at iY
   simp only[Result.andThen_ok,Sem.run_bind]at iY⊢
   cases hq:(part f.type ys o).run P w1 with
   |halt x w2=>rw[hq]at iY;simp at iY
   |ok b w2=>
    rw[hq]at iY
    simp only[Result.andThen_ok]at iY⊢
    rw[iY]
    simp only[Result.andThen_ok]
    cases he:eqs a1 b1 with
    |true=>simpa[he]using w9
    |false=>simp
theorem Zhp{P:Program}{n m:Nat}{e:TypeId}{k:Nat}(hk:P.cellsOf e=k)(hl:(mg P n e).length=k)(ih:∀(xs ys:Array Value) (o:Nat) (az bs:List D) (w:World),fits (mg P n e) az=true->fits (mg P n e) bs=true->pV xs o az->pV ys o bs->
 (oC e m xs ys o).run P w=.ok (eqs az bs) w):
 ∀ (len i:Nat) (az bs:List D) (xs ys:Array Value) (w:World),fits (cQ len (mg P n e)).flatten az=true->fits (cQ len (mg P n e)).flatten bs=true->pV xs (i*k) az->pV ys (i*k) bs->
  (do
   let r<-forIn (List.range' i len) ((none,()):Option Bool×Unit) λj _=>do
    let a<-part e xs (j*k)
    let b<-part e ys (j*k)
    let q<-Op.equalIn m e a b
    if(!q)=true then pure (ForInStep.done (some false,()))else pure (ForInStep.yield (none,()))
   match r.1 with
   |some a=>pure a
   |none=>pure true:Sem Bool).run P w=.ok (eqs az bs) w
 |0,i,az,bs,xs,ys,w,ha,hb,_,_=>by
  have h1:=sY ha
  have h2:=sY hb
  simp at h1 h2
  subst h1;subst h2
  simp[eqs]
 |len + 1,i,az,bs,xs,ys,w,ha,hb,sa,sb=>by
  simp only[List.replicate_succ,List.flatten_cons]at ha hb
  obtain⟨a1,a2,rfl,ZT,ZU,la⟩:=QL ha
  obtain⟨b1,b2,rfl,ZV,ZW,lb⟩:=QL hb
  have iY:=ih xs ys (i*k) a1 b1 w ZT ZV sa.left sb.left
  have w9:=Zhp hk hl ih len (i+1) a2 b2 xs ys w ZU ZW (by rw[aW];have:=sa.right;rwa [la,hl]at this) (by rw[aW];have:=sb.right;rwa [lb,hl]at this)
  unfold oC at iY
  rw[ZS (by omega)]
  simp only[List.range'_succ,List.forIn_cons,Sem.run_bind]at iY⊢
  cases hp:(part e xs (i*k)).run P w with
  |halt x w1=>rw[hp]at iY;simp at iY
  |ok a w1=>
   rw[hp]at iY
   simp only[Result.andThen_ok]at iY⊢
   cases hq:(part e ys (i*k)).run P w1 with
   |halt x w2=>rw[hq]at iY;simp at iY
   |ok b w2=>
    rw[hq]at iY
    simp only[Result.andThen_ok]at iY⊢
    rw[iY]
    simp only[Result.andThen_ok]
    cases he:eqs a1 b1 with
    |true=>
     simp only[Sem.run_bind]at w9
     simpa[he]using w9
    |false=>simp
theorem ZH{P:Program}:∀(n:Nat) (t:TypeId) (m:Nat),n<=m->rF P n t=true->P.cellsOf t=(mg P n t).length->0<P.cellsOf t->∀(xs ys:Array Value) (o:Nat) (az bs:List D) (w:World),
 fits (mg P n t) az=true->fits (mg P n t) bs=true->pV xs o az->pV ys o bs->(oC t m xs ys o).run P w=.ok (eqs az bs) w
 |0,t,m,_,h,_,_,_,_,_,_,_,_,_,_,_,_=>by simp[rF]at h
 |n+1,t,0,hm,_,_,_,_,_,_,_,_,_,_,_,_,_=>by omega
 |n + 1,t,m+1,hm,h,hc,h0,xs,ys,o,az,bs,w,ha,hb,sa,sb=>by
  unfold rF at h
  split at h
  ·rename_i k hd
   simp only[mg,hd]at ha hb
   have h1:=sY ha;have h2:=sY hb
   obtain⟨x,rfl⟩:=List.length_eq_one_iff.1 h1
   obtain⟨y,rfl⟩:=List.length_eq_one_iff.1 h2
   simp only[fits,gJ]at ha hb
   have hx:=sa 0 x rfl;have hy:=sb 0 y rfl
   rw[D.j6 ha]at hx⊢
   rw[D.j6 hb]at hy⊢
   simp only[sv,bG]at hx hy
   simp only[oC,Sem.run_bind,Hz hd rfl hx,Hz hd rfl hy,Result.andThen_ok,run_equalIn_int w m t k k _ _ hd,eqs,U8,gJ]
  ·rename_i hd
   simp only[mg,hd]at ha hb
   have h1:=sY ha;have h2:=sY hb
   obtain⟨x,rfl⟩:=List.length_eq_one_iff.1 h1
   obtain⟨y,rfl⟩:=List.length_eq_one_iff.1 h2
   simp only[fits,gJ]at ha hb
   have hx:=sa 0 x rfl;have hy:=sb 0 y rfl
   rw[D.j7 ha]at hx⊢
   rw[D.j7 hb]at hy⊢
   simp only[sv,bG]at hx hy
   simp only[oC,Sem.run_bind,Hz hd rfl hx,Hz hd rfl hy,Result.andThen_ok,run_equalIn_bool' w m t _ _ hd,eqs,U8,gJ]
  ·rename_i hd
   simp only[mg,hd]at ha hb
   have h1:=sY ha;have h2:=sY hb
   obtain⟨x,rfl⟩:=List.length_eq_one_iff.1 h1
   obtain⟨y,rfl⟩:=List.length_eq_one_iff.1 h2
   simp only[fits,gJ]at ha hb
   have hx:=sa 0 x rfl;have hy:=sb 0 y rfl
   cases x<;>simp[D.isStr]at ha
   cases y<;>simp[D.isStr]at hb
   rename_i s u
   simp only[sv,bG]at hx hy
   simp only[oC,Sem.run_bind,Hz hd rfl hx,Hz hd rfl hy,Result.andThen_ok,run_equalIn_string w m t _ _ hd,eqs,U8,gJ,ByteArray.toList_mk]
   congr 1
   rw[eI];simp
  ·rename_i fs hd
   simp only[aE,Bool.not_eq_true']at h
   have hf:P.fieldsOf t=fs:=by simp[Program.fieldsOf,hd]
   have hl:=sY ha
   have tC:=sY hb
   simp only[mg,hd]at ha hb
   simp only[oC,Sem.run_bind,UW hd rfl h0,Result.andThen_ok]
   rw[run_equalIn_struct w m t _ _ (by rw[hf];exact hd) h.1,hf]
   refine Z8g (n:=n) (λu hu hcu h0u xs ys o az bs w=>ZH n u m (by omega) hu hcu h0u xs ys o az bs w) fs.toList 0 az bs _ _ w h.2 ha hb (sa.extract (by omega)) (sb.extract (by omega))
  ·rename_i len e hd
   simp only[aE]at h
   obtain⟨⟨h1,h2⟩,h3⟩:=h
   have h1:=bE h1
   have h2:0<P.cellsOf e:=lE h2
   have hl:=sY ha
   have tC:=sY hb
   simp only[mg,hd]at ha hb
   simp only[oC,Sem.run_bind,UW hd rfl h0,Result.andThen_ok]
   have:=Zhp (P:=P) (n:=n) (m:=m) (e:=e) rfl h1.symm (λxs ys o az bs w=>ZH n e m (by omega) h3 h1 h2 xs ys o az bs w) len 0 az bs (xs.extract o (o+P.cellsOf t)) (ys.extract o (o+P.cellsOf t)) w ha hb
    (by rw[cM];exact sa.extract (by omega)) (by rw[cM];exact sb.extract (by omega))
   rw[<-this]
   simp only[Op.equalIn,Sem.run_bind,run_underlying hd,Result.andThen_ok,Bz h2,Std.Legacy.Range.forIn_eq_forIn_range',Std.Legacy.Range.size,gC,Nat.add_sub_cancel,Nat.div_one]
   congr 1
   funext r w'
   obtain⟨f,u⟩:=r
   cases f<;>rfl
  ·cases h
theorem PV:∀{vs:List Value} {ds:List D},By vs=some ds->ds.length=vs.length
 |[],ds,h=>by simp[By]at h;subst h;rfl
 |v ::vs,ds,h=>by
  simp only[By]at h
  split at h
  ·rename_i d l h1 h2
   simp at h;subst h
   simp[PV h2]
  ·cases h
theorem Z7y{I:ae}{w:World}{z:List D}{zs:Array Value}{sz n m:Nat}(hz:z.length=sz)(hs:zs.size=sz)(hr:∀j v,zs[j]?=some v->fy I w (z.getD j .dead) v)(hm:n<=m):
 iJ I w (cQ n z) (madeCells zs (m*sz)) 0 sz:=by
 rw[wh]
 intro i hi
 have iz:i<n:=by simpa using hi
 have he:(cQ n z).getD i []=z:=by simp[aK,iz]
 rw[he]
 refine⟨hz,?_⟩
 rw[tW]
 intro j hj
 have cg:i*sz+j<m*sz:=by
  have:=aV sz (show i+1<=m by omega)
  rw[aW]at this
  omega
 have ZX:(i*sz+j)%sz=j:=by rw[Nat.add_comm,Nat.add_mul_mod_self_right,Nat.mod_eq_of_lt (by omega)]
 have hj':j<zs.size:=by omega
 refine⟨zs[j],?_,hr j _ (Array.getElem?_eq_getElem hj')⟩
 have hrg:(gK (m*sz))[i*sz+j]?=some (i*sz+j):=by rw[Array.getElem?_range,if_pos cg]
 simp only[madeCells,aX,Array.getElem?_map,hrg,Option.map_some,hs,ZX]
 simp[hj']
theorem Z8b{z:List D}{u:Value}(h:By u.cells.toList=some z)(hp:z.all D.plain=true)(c:Ctx)(w:World):∀j v,u.cells[j]?=some v->fy c.I w (z.getD j .dead) v:=by
 intro j v hv
 have hr:=JQ h c w
 have hl:=hr.length
 have h1:u.cells.toList[j]?=some v:=by simpa using hv
 have cg:j<z.length:=by rw[hl];exact(List.getElem?_eq_some_iff.1 h1).1
 refine cv.plain ?_ ((En.1 hr).2 j v h1)
 have hm:z.getD j .dead∈z:=by
  simp only[aK,cG cg,aG]
  exact fI _
 exact List.all_eq_true.1 hp _ hm
theorem YZ{c:Ctx}{w:World}{k:Nat}{e:TypeId}{sz cap:Nat}{es:ao}{arr:Array Value}(h1:es.l.length<=cap)(h2:cap<=maxLen)(h3:cap*sz=arr.size):
 Rep (c.add k ⟨false,e,sz,es⟩ w.heap.size) (w.alloc (.cells arr e)) (.all k) (.slice (some ⟨w.heap.size,0,none⟩) es.l.length cap):=by
 refine⟨_,(Ctx.ja _ _ _ _).1,rfl,.inr ⟨by simp[Ctx.add],cap,arr,?_,h1,h2,?_,h3⟩⟩
 ·rw[(Ctx.ja _ _ _ _).2]
 ·rw[(Ctx.ja _ _ _ _).2];exact UL w _
theorem qw{P:Program}{T:fq}(hT:jz P T){t:TypeId}{kl kc:IntKind}{n m:Int}{R:Rows}{K:D->Rows->Prop}(h:uQ T t n m R K):
 ∃row val,K val (R++[some row])/\∀c w,UU P (Instr.makeSlice t (.int kl n) (.int kc m)) w c R.length row val:=by
 unfold uQ at h
 split at h
 ·rename_i e _ _ _ _ _ _ ht
  have hk:=mX hT ht
  simp only at hk
  split at h
  ·rename_i kk sz lQ cs z q he
   simp only[da,aE,decide_eq_true_eq,Nt]at h
   obtain⟨⟨⟨⟨h0,hz⟩,hp⟩,g0,g1,g2,g3⟩,h⟩:=h
   have h0:0<sz:=lE h0
   have hz:=bE hz
   obtain⟨i,u,hi,hu,JF,hs,hb,hc,hzero⟩:=JG hT he
   refine⟨_,_,h,λc w=>?_⟩
   have hr:=run_make (P:=P) w t e i u hk.1 hi hu kl kc n m g0 g1 (by rw[hb];omega) g2
   rw[hs]at hr
   have wV:u.cells.size=sz:=by have:=PV JF;simp at this;omega
   refine⟨_,_,hr,⟨h0,?_⟩,λ_ _=>?_⟩
   ·simp only[aN,if_false,ao.uR]
    exact Z7y (n:=n.toNat) (m:=m.toNat) hz wV (Z8b JF hp c w) (by omega)
   ·have:=YZ (c:=c) (w:=w) (k:=R.length) (e:=e) (sz:=sz) (cap:=m.toNat) (es:=ao.FU e n.toNat z) (arr:=madeCells u.cells (m.toNat*sz)) (by rw[ao.uR];simp;omega) (by unfold maxLen;omega) (by simp[madeCells])
    rw[ao.uR]at this
    simpa using this
  ·exact h.elim
 ·exact h.elim
theorem xw{c:Ctx}{w:World}{d:D}{v:Value}(h:cv c w d v):cv c w d.QM v:=by
 cases d with
 |sl sz es fr=>
  obtain⟨a,cap,hv,hc,h⟩:=h
  refine⟨a,cap,hv,hc,?_⟩
  rcases h with h|⟨b,off,arr,ty,fz,h1,h2,h3,h4⟩
  ·exact .inl h
  ·exact .inr ⟨b,off,arr,ty,fz,h1,h2,(λe=>by cases e),h4⟩
 |_=>exact h
theorem Z9c{c:Ctx}{w:World}:∀{ds:List D} {vs:List Value},jm c w ds vs->jm c w (HH ds) vs
 |[],[],_=>trivial
 |d::ds,v::vs,h=>⟨xw h.1,Z9c h.2⟩
 |[],_::_,h=>h.elim
 |_::_,[],h=>h.elim
theorem Zeu{n len:Nat}(h0:0<n){ev:Operand->D}:∀{parts:List (Nat×Operand)} {es:List (List D)} {K:List (List D)->Prop},es.length=len->HI n len ev parts es K->
 ∃ jc,K jc/\jc.length=len/\∀c w (ρ:Operand->Value) (cells:Array Value),cells.size=len*n->iJ c.I w es cells 0 n->(∀p∈parts,Rep c w (ev p.2) (ρ p.2))->
  ∃ff,Instr.fill (λi=>some (i*n,n)) cells (parts.map λp=>(p.1,ρ p.2))=some ff/\ff.size=len*n/\iJ c.I w jc ff 0 n
 |[],es,K,hl,h=>⟨es,h,hl,λc w ρ cells hs he _=>⟨cells,rfl,hs,he⟩⟩
 |(i,x)::ps,es,K,hl,h=>by
  unfold HI at h
  simp only[da,aE]at h
  obtain⟨⟨⟨⟨hv,hp⟩,hn⟩,hi⟩,h⟩:=h
  have hn:=bE hn
  have hi:i<len:=lE hi
  obtain⟨jc,hK,tC,hr⟩:=Zeu h0 (by simpa using hl) h
  refine⟨jc,hK,tC,λc w ρ cells hs he mh=>?_⟩
  have hx:=Z9c (Rep.cells hv (mh (i,x) (by simp)))
  have hlen:(ρ x).cells.size=n:=by rw[<-hn,hx.length];simp
  have kP:i*n+n<=cells.size:=by
   have:=aV n (show i+1<=len by omega)
   rw[aW]at this
   omega
  have hw:=Qyv (c:=c) (w:=w) (es:=es) (arr:=cells.toList) (off:=0) (i:=i) (by simpa using he) (by omega) (by omega) hx hp (by simpa using kP)
  have QN:lh (es.getD i []) 0 (HH (ev x).cells)=HH (ev x).cells:=by
   have KD:=(wh.1 he i (by omega)).1
   apply gI
   intro k
   rw[HD (by omega)]
   by_cases hk:k<(HH (ev x).cells).length
   ·rw[if_pos (by omega)];simp
   ·rw[if_neg (by omega),aM (by omega),aM (by omega)]
  rw[QN]at hw
  have ko:(pE cells.toList (i*n+0) (ρ x).cells.toList).toArray=(ρ x).cells.zipIdx.foldl (λcs (x:Value×Nat)=>cs.setIfInBounds (i*n+x.2) x.1) cells:=by
   rw[bG,<-Zi2 (ρ x) (i*n) cells]
  rw[ko]at hw
  obtain⟨ff,k1,k2,k3⟩:=hr c w ρ _ (by rw[<-ko];simp[U7,hs]) hw (λp hp=>mh p (by simp[hp]))
  refine⟨ff,?_,k2,k3⟩
  simp only[fR,Instr.fill]
  rw[if_neg (by simp;omega)]
  exact k1
theorem Z7z{n len:Nat}{ev:Operand->D}:∀{parts:List (Nat×Operand)} {es:List (List D)} {K:List (List D)->Prop},HI n len ev parts es K->
 ∃jc,K jc/\∀(il:Operand->D) (K2:List (List D)->Prop),(∀p∈parts,il p.2=ev p.2)->K2 jc->HI n len il parts es K2
 |[],es,K,h=>⟨es,h,λil K2 _ h2=>h2⟩
 |(i,x)::ps,es,K,h=>by
  unfold HI at h
  simp only[da]at h
  obtain⟨jc,h1,h2⟩:=Z7z h.2
  refine⟨jc,h1,λil K2 he hk=>?_⟩
  unfold HI
  rw[he (i,x) (by simp)]
  simp only[da]
  exact⟨h.1,h2 il K2 (λp hp=>he p (by simp[hp])) hk⟩
theorem Zlf{T:fq}{t:TypeId}{len:Nat}{parts:List (Nat×Operand)}{ev:Operand->D}{R:Rows}{K:D->Rows->Prop}(h:Ql T t len parts ev R K):
 ∃val,K val R/\∀(il:Operand->D) (R2:Rows),(∀p∈parts,il p.2=ev p.2)->Ql T t len parts il R2 λd R'=>d=val/\R'=R2:=by
 unfold Ql at h⊢
 split at h
 ·split at h
  ·simp only[da]at h⊢
   obtain⟨h0,h⟩:=h
   obtain⟨jc,hK,hd⟩:=Z7z h
   cases len with
   |zero=>exact⟨_,hK,λil R2 eu=>⟨h0,hd il _ eu (by simp)⟩⟩
   |succ m=>exact⟨_,hK,λil R2 eu=>⟨h0,hd il _ eu (by simp)⟩⟩
  ·exact h.elim
 ·exact h.elim
theorem Zox{P:Program}{T:fq}(hT:jz P T){t:TypeId}{len:Nat}{parts:List (Nat×Operand)}{ev:Operand->D}{R:Rows}{K:D->Rows->Prop}(h:Ql T t len parts ev R K):
    ∃val,K val R/\ ∀c w (ρ:Operand->Value),c.base<=w.heap.size->(∀p∈parts,Rep c w (ev p.2) (ρ p.2))-> ∃u arr ty,(Instr.buildSlice t len (parts.map λp=>(p.1,ρ p.2)).toArray).run P w= .ok u (w.alloc (.cells arr ty))/\(Mem c w->Rep (c.fu w.heap.size) (w.alloc (.cells arr ty)) val u):=by
  unfold Ql at h
  split at h
  . rename_i e _ _ _ _ _ _ ht
    have hk:=mX hT ht
    simp only at hk
    split at h
    . rename_i kk sz lQ cs z q he
      simp only[da,aE]at h
      obtain⟨⟨⟨⟨h0,hz⟩,hle⟩,hp⟩,h⟩:=h
      have h0:0<sz:=lE h0
      have hz:=bE hz
      have hle:=lE hle
      obtain⟨i,u,hi,hu,JF,hs,hb,hc,hzero⟩:=JG hT he
      obtain⟨jc,hK,tC,hr⟩:=Zeu h0 (by simp) h
      have wV:u.cells.size=sz:=by have:=PV JF;simp at this;omega
      have main: ∀c w (ρ:Operand->Value),(∀p∈parts,Rep c w (ev p.2) (ρ p.2))-> ∃ff,(Instr.buildSlice t len (parts.map λp=>(p.1,ρ p.2)).toArray).run P w= .ok (.slice (some ⟨w.heap.size,0,none⟩) len len) (w.alloc (.cells ff e))/\iJ c.I w jc ff 0 sz:=by
        intro c w ρ mh
        have KD:=Z7y (I:=c.I) (w:=w) hz wV (Z8b JF hp c w) (aO len)
        obtain⟨ff,k1,k2,k3⟩:=hr c w ρ (madeCells u.cells (len*sz)) (by simp [madeCells]) KD mh
        refine⟨ff,?_,k3⟩
        have ZY: ¬len*sz>2^24:=by omega
        have EP:0<P.cellsOf e:=by omega
        unfold Instr.buildSlice
        simp only[Sem.run_bind,run_underlying hk.1,Result.andThen_ok,Bz EP,hc,Sem.run_ite,ZY,if_false,Sem.run_pure]
        by_cases Mp:len*sz=0
        . have oa:Instr.fill (λi=>some (i*sz,sz)) ((gK (len*sz)).map λx=>(#[]:Array Value)[x%(#[]:Array Value).size]!) (parts.map λp=>(p.1,ρ p.2))=some ff:=by
            rw[<-k1];congr 1
            rw[Mp];simp [madeCells]
          simp only[Mp,if_true]at oa⊢
          rw[oa]
          simp only[newRow,Sem.run_bind,run_newObj,Result.andThen_ok,Sem.run_pure]
          rfl
        . simp only[Mp,if_false,hzero,Result.andThen_ok]
          rw[show Instr.fill (λi=>some (i*sz,sz)) ((gK (len*sz)).map λx=>u.cells[x%u.cells.size]!) (parts.map λp=>(p.1,ρ p.2))=some ff from k1]
          simp only[newRow,Sem.run_bind,run_newObj,Result.andThen_ok,Sem.run_pure]
          rfl
      cases len with
      | zero=>
        refine⟨_,hK,λc w ρ _ mh=> ?_⟩
        obtain⟨ff,h1,_⟩:=main c w ρ mh
        exact⟨_,ff,e,h1,λ_=>⟨_,rfl,λx hx=>by cases hx;exact Nat.lt_of_lt_of_le (Nat.lt_succ_self _) (Nat.le_max_right _ _)⟩⟩
      | succ m=>
        refine⟨_,hK,λc w ρ jj mh=> ?_⟩
        obtain⟨ff,h1,h2⟩:=main c w ρ mh
        refine⟨_,ff,e,h1,λhm=> ?_⟩
        refine⟨some ⟨w.heap.size,0,none⟩,m+1,by rw[ao.Da,tC],by rw[ao.Da,tC];exact aO _, .inr ⟨w.heap.size,0,ff,e,(0,0),rfl, .inr rfl,λ_=>jj,UL w _,?_⟩⟩
        rw[ao.Da]
        exact od (US hm _).I _ _ _ _ h2
    . exact h.elim
  . exact h.elim

