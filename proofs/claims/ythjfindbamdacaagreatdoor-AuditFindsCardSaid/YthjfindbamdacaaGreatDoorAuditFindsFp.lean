import Derived.Test.YthjfindbamdacaaGreatDoorAuditFindsFm
import Derived.Lib.Strings
open Bool renaming eq_iff_iff->eI,false_eq_true->aN,and_true->gJ
open Option renaming map_eq_some_iff->fQ,getD_some->aG
open Nat renaming add_assoc->fY,succ_mul->aW,le_refl->aO,sub_zero->gC,sub_self->gD,zero_add->aX,mul_le_mul_right->aV,add_zero->bG,zero_mul->cM
open List renaming length_nil->dJ,map_cons->fR,length_cons->dI,getElem?_cons_zero->gE,getElem?_set_self->gG,getElem?_set_ne->gH,getD->aK,getElem?_toArray->aY,getElem?_eq_getElem->cG,getElem_mem->fI,ext_getElem?->gI,append_assoc->fF,getElem?_append_right->bB,getElem?_append_left->aZ,getElem?_eq_none->aM,cons_append->cD,replicate->cQ
open Array renaming toArray_toList->bS,range->gK
set_option linter.all false
namespace Go.GD
open Go
theorem Zi5(a b:List UInt8):(ByteArray.mk a.toArray)++(ByteArray.mk b.toArray)=ByteArray.mk (a++b).toArray:=by
 rw[ByteArray.ext_iff]
 simp
theorem Rep.int{c:Ctx}{w:World}{k:IntKind}{n:Int}{v:Value}:Rep c w (.int k n) v↔v=.int k n:=Iff.rfl
theorem Rep.bool{c:Ctx}{w:World}{b:Bool}{v:Value}:Rep c w (.bool b) v↔v=.bool b:=Iff.rfl
theorem Rep.str{c:Ctx}{w:World}{s:List UInt8}{v:Value}:Rep c w (.str s) v↔v=.string ⟨s.toArray⟩:=Iff.rfl
theorem Zz{P:Program}{op:BinOp}{t:TypeId}{x y:Operand}{k k':IntKind}{a b:Int}(w:World):(eqGuard op t x y (.int k a) (.int k' b)).run P w=.ok () w:=by
 cases op<;>rfl
theorem Zj7{P:Program}{op:BinOp}{t:TypeId}{x y:Operand}{a b:ByteArray}(w:World):(eqGuard op t x y (.string a) (.string b)).run P w=.ok () w:=by
 cases op<;>rfl
theorem Qyv{P:Program}{op:BinOp}{t:TypeId}{x y:Operand}{a b:Bool}(w:World):(eqGuard op t x y (.bool a) (.bool b)).run P w=.ok () w:=by
 cases op<;>rfl
theorem zav{P:Program}{op:BinOp}{t:TypeId}{k:IntKind}{a b:Int}{K:D->Prop}(rM:op≠.shl/\op≠.shr)(h:US op k a b K):
 ∃d,K d/\∀w,∃u,(binOp op t (.int k a) (.int k b)).run P w=.ok u w/\∀c,Rep c w d u:=by
 cases op<;>simp only[US,da,decide_eq_true_eq]at h
 case add=>exact⟨_,h,λw=>⟨_,by simp only[binOp,ne_eq,not_true_eq_false,if_false,Op.intArith,Sem.run_pure];try rfl,λc=>rfl⟩⟩
 case sub=>exact⟨_,h,λw=>⟨_,by simp only[binOp,ne_eq,not_true_eq_false,if_false,Op.intArith,Sem.run_pure];try rfl,λc=>rfl⟩⟩
 case mul=>exact⟨_,h,λw=>⟨_,by simp only[binOp,ne_eq,not_true_eq_false,if_false,Op.intArith,Sem.run_pure];try rfl,λc=>rfl⟩⟩
 case quo=>exact⟨_,h.2,λw=>⟨_,by simp only[binOp,ne_eq,not_true_eq_false,if_false,Op.intDiv,h.1,Sem.run_pure];try rfl,λc=>rfl⟩⟩
 case rem=>exact⟨_,h.2,λw=>⟨_,by simp only[binOp,ne_eq,not_true_eq_false,if_false,Op.intDiv,h.1,Sem.run_pure];try rfl,λc=>rfl⟩⟩
 case and=>exact⟨_,h,λw=>⟨_,by simp only[binOp,ne_eq,not_true_eq_false,if_false,Op.intBits,Sem.run_pure];try rfl,λc=>rfl⟩⟩
 case or=>exact⟨_,h,λw=>⟨_,by simp only[binOp,ne_eq,not_true_eq_false,if_false,Op.intBits,Sem.run_pure];try rfl,λc=>rfl⟩⟩
 case xor=>exact⟨_,h,λw=>⟨_,by simp only[binOp,ne_eq,not_true_eq_false,if_false,Op.intBits,Sem.run_pure];try rfl,λc=>rfl⟩⟩
 case andNot=>exact⟨_,h,λw=>⟨_,by simp only[binOp,ne_eq,not_true_eq_false,if_false,Op.intBits,Sem.run_pure];try rfl,λc=>rfl⟩⟩
 case eql=>exact⟨_,h,λw=>⟨_,by simp only[binOp,ne_eq,not_true_eq_false,if_false,Op.intCmp,Sem.run_pure];try rfl,λc=>rfl⟩⟩
 case neq=>exact⟨_,h,λw=>⟨_,by simp only[binOp,ne_eq,not_true_eq_false,if_false,Op.intCmp,Sem.run_pure];try rfl,λc=>rfl⟩⟩
 case lss=>exact⟨_,h,λw=>⟨_,by simp only[binOp,ne_eq,not_true_eq_false,if_false,Op.intCmp,Sem.run_pure];try rfl,λc=>rfl⟩⟩
 case leq=>exact⟨_,h,λw=>⟨_,by simp only[binOp,ne_eq,not_true_eq_false,if_false,Op.intCmp,Sem.run_pure];try rfl,λc=>rfl⟩⟩
 case gtr=>exact⟨_,h,λw=>⟨_,by simp only[binOp,ne_eq,not_true_eq_false,if_false,Op.intCmp,Sem.run_pure];try rfl,λc=>rfl⟩⟩
 case geq=>exact⟨_,h,λw=>⟨_,by simp only[binOp,ne_eq,not_true_eq_false,if_false,Op.intCmp,Sem.run_pure];try rfl,λc=>rfl⟩⟩
theorem Zff{P:Program}{t:TypeId}{k k':IntKind}{a b:Int}(hb:0<=b)(w:World):
 (binOp .shl t (.int k a) (.int k' b)).run P w=.ok (.int k (eg k a b)) w/\(binOp .shr t (.int k a) (.int k' b)).run P w=.ok (.int k (bg k a b)) w:=by
 have:¬b<0:=by omega
 constructor<;>(simp only[binOp];simp[Op.shift,this,eg,bg])
theorem xav{P:Program}{op:BinOp}{t:TypeId}{a b:List UInt8}{K:D->Prop}
 (h:match op with
  |.add=>cj (decide (a.length+b.length<=maxLen)) (K (.str (a++b)))
  |.eql=>K (.bool (decide (a=b)))
  |.neq=>K (.bool (!decide (a=b)))
  |_=>False):
 ∃d,K d/\∀w,∃u,(binOp op t (.string ⟨a.toArray⟩) (.string ⟨b.toArray⟩)).run P w=.ok u w/\∀c,Rep c w d u:=by
 cases op<;>simp only[da,decide_eq_true_eq]at h
 case add=>
  refine⟨_,h.2,λw=>⟨_,?_,λc=>rfl⟩⟩
  have hl:¬(((a.toArray.size+b.toArray.size:Nat):Int)>IntKind.i64.max):=by
   have:=h.1
   unfold maxLen at this
   simp only[List.size_toArray,IntKind.max,IntKind.signed,IntKind.bits,if_true]
   omega
  simp only[binOp]
  simp only[Op.stringOp,ByteArray.size,hl,if_false,Sem.run_pure,Zi5]
 case eql=>
  refine⟨_,h,λw=>⟨_,?_,λc=>rfl⟩⟩
  simp only[binOp]
  simp only[Op.stringOp,Sem.run_pure,ByteArray.toList_mk,show(a==b)=decide (a=b) from by rw[eI];simp]
  try rfl
 case neq=>
  refine⟨_,h,λw=>⟨_,?_,λc=>rfl⟩⟩
  simp only[binOp]
  simp only[Op.stringOp,Sem.run_pure,ByteArray.toList_mk,show(a==b)=decide (a=b) from by rw[eI];simp]
  try rfl
def Gf(P:Program)(x:Sem Value)(w:World)(c:Ctx)(d:D):Prop:=∃u,x.run P w=.ok u w/\Rep c w d u
theorem mU{P:Program}{T:fq}(hT:jy P T){t:TypeId}{k:TK}{a b:Nat}{cs:List rb}{z:Option (List D)}{e:Bool}(h:T.get t=some ⟨k,a,b,cs,z,e⟩):
 match k with
 |.int j=>P.underlying t=some (.int j)
 |.bool=>P.underlying t=some .bool
 |.string=>P.underlying t=some .string
 |.slice u n=>P.underlying t=some (.slice u)/\P.cellsOf u=n
 |.struct fs=>∃gs,P.underlying t=some (.struct gs)/\fs=gs.toList.map λf=>(f.offset,f.type,P.cellsOf f.type)
 |.array m u n=>P.underlying t=some (.array m u)/\P.cellsOf u=n
 |.other=>True:=by
 obtain⟨i,hi,hs,hb,hl,hk,_⟩:=DE (hT.get h)
 simp only at hk
 unfold Hv at hk
 split at hk<;>(subst hk;simp_all)
theorem qaw{P:Program}{T:fq}(hT:jy P T){s d:TypeId}{x:D}{K:D->Prop}(h:Mx T s d x K):
 ∃val,K val/\∀c w v,Rep c w x v->Gf P (convert s d v) w c val:=by
 unfold Mx at h
 split at h
 ·rename_i k1 _ _ _ _ _ k2 _ _ _ _ _ hs hd
  have h1:=mU hT hs
  have h2:=mU hT hd
  simp only at h1 h2
  cases x<;>simp only at h
  exact⟨_,h,λc w v hv=>⟨_,by rw[Rep.int.1 hv];simp only[convert,Sem.run_bind,run_underlying h1,run_underlying h2,Result.andThen_ok,Conv.intToInt,Sem.run_pure],rfl⟩⟩
 ·rename_i hs hd
  have h1:=mU hT hs
  have h2:=mU hT hd
  simp only at h1 h2
  cases x<;>simp only at h
  exact⟨_,h,λc w v hv=>⟨_,by rw[Rep.str.1 hv];simp only[convert,Sem.run_bind,run_underlying h1,run_underlying h2,Result.andThen_ok,Sem.run_pure],rfl⟩⟩
 ·exact h.elim
theorem Qz6{P:Program}{T:fq}(hT:jy P T){s:TypeId}{f o:Nat}{q:TypeId×Nat}(h:P7 T s f=some (o,q)):
 ∃fs fd,P.underlying s=some (.struct fs)/\fs[f]?=some fd/\fd.offset=o/\fd.type=q.1/\P.cellsOf fd.type=q.2:=by
 unfold P7 at h
 split at h
 ·rename_i fs _ _ _ _ _ ht
  obtain⟨i,hi,hs,hb,hl,hk,_⟩:=DE (hT.get ht)
  simp only at hk
  unfold Hv at hk
  split at hk<;>try(cases hk;done)
  rename_i gs hd
  simp only[TK.struct.injEq]at hk
  subst hk
  simp only[List.getElem?_map,fQ,Prod.mk.injEq,Array.getElem?_toList]at h
  obtain⟨fd,h1,h2,h3⟩:=h
  exact⟨gs,fd,hd,h1,h2,by rw[<-h3],by rw[<-h3]⟩
 ·cases h
theorem Zch{P:Program}{t:TypeId}(h:0<P.cellsOf t):∃i,P.info? t=some i:=by
 unfold Program.cellsOf at h
 cases hi:P.info? t with
 |none=>simp[hi]at h
 |some i=>exact⟨i,rfl⟩
theorem Bu{P:Program}{t:TypeId}(h:0<P.cellsOf t)(w:World):(sizeOf t).run P w=.ok (P.cellsOf t) w:=by
 obtain⟨i,hi⟩:=Zch h
 exact run_sizeOf w hi
theorem Z3c{P:Program}{s:TypeId}{fs:Array Field}{f:Nat}{fd:Field}(hs:P.underlying s=some (.struct fs))(hf:fs[f]?=some fd)(h0:0<P.cellsOf fd.type)(b o:Nat)(w:World):
 (Instr.fieldAt s (.pointer (some ⟨b,o,none⟩)) f).run P w=.ok (.pointer (some ⟨b,o+fd.offset,none⟩)) w:=by
 have h1:¬P.cellsOf fd.type=0:=by omega
 simp only[Instr.fieldAt,Sem.run_bind,run_underlying hs,Result.andThen_ok,hf,Instr.sureAddr,Sem.run_pure,fieldPlace,Bu h0,Sem.run_ite,h1,if_false,FG]
theorem Zpf{P:Program}{T:fq}(hT:jy P T){t:TypeId}{x:D}{UT:Bool}{n:Int}{k:IntKind}{R:Rows}{K:D->Rows->Prop}(h:UU T t x UT n R K):
 ∃val,K val R/\∀c w v,Mem c w->mH c R->Rep c w x v->Gf P (Instr.indexAt t v (.int k n)) w c val:=by
 unfold UU at h
 split at h
 ·rename_i e iL _ _ _ _ _ ht
  have hk:=mU hT ht
  simp only at hk
  obtain⟨hu,fw⟩:=hk
  have ZF:∀(b o len cap:Nat) (w:World),0<iL->0<=n->n<len->(Instr.indexAt t (.slice (some ⟨b,o,none⟩) len cap) (.int k n)).run P w=.ok (.pointer (some ⟨b,o+n.toNat*iL,none⟩)) w:=by
   intro b o len cap w h0 h1 h2
   simp only[Instr.indexAt,asIntOf,Sem.run_bind,Sem.run_pure,Result.andThen_ok,run_underlying hu,Sem.run_ite,h1,h2,and_self,if_true,Bu (fw▸h0),fw,FG]
  cases x<;>simp only[da,aE,decide_eq_true_eq,<-ao.iv]at h
  case sl sz es fr=>
   obtain⟨⟨⟨h1,h0⟩,h2,h3⟩,h⟩:=h
   have h1:=bE h1
   have h0:0<iL:=lE h0
   subst h1
   refine⟨_,h,λc w v hm hA hv=>?_⟩
   obtain⟨a,cap,hv,hc,ij⟩:=hv
   rcases ij with ij|⟨b,off,arr,ty,fz,ha,hI,hf,hh,hE⟩
   ·rw[ij]at h3;simp at h3;omega
   ·subst ha;subst hv
    refine⟨_,ZF b off _ _ w h0 h2 h3,b,off,arr,ty,fz,by simp,hI,by omega,hh,hE⟩
  case all r=>
   split at h
   ·rename_i box ty sz es hR
    obtain⟨⟨⟨h1,h0⟩,h2,h3⟩,h⟩:=h
    have h1:=bE h1
    have h0:0<iL:=lE h0
    subst h1
    refine⟨_,h,λc w v hm hA hv=>?_⟩
    obtain⟨row,g1,g2,hv⟩:=hv
    have:=hA r row _ g1 hR
    subst this
    rcases hv with⟨hV,a,hv,_⟩|⟨hV,cap,arr,hv,g3,g4,g5,g6⟩
    ·have:=(hm.oe g1 hV).2.1
     simp only at this
     rw[this]at h3
     simp at h3;omega
    ·subst hv
     exact⟨_,ZF _ 0 _ _ w h0 h2 h3,_,g1,hV,by simp only;omega,by simp⟩
   ·exact h.elim
  case own r o m=>
   split at h
   ·rename_i box ty sz es hR
    obtain⟨⟨⟨h1,h0⟩,h2,h3⟩,h⟩:=h
    have h1:=bE h1
    have h0:0<iL:=lE h0
    subst h1
    refine⟨_,h,λc w v hm hA hv=>?_⟩
    obtain⟨row,g1,g2,g5,hv⟩:=hv
    have:=hA r row _ g1 hR
    subst this
    simp only at*
    rcases hv with⟨g7,_⟩|⟨hV,cap,arr,g3,g4,g6,hv,g7⟩
    ·omega
    ·subst hv
     exact⟨_,ZF _ _ _ _ w h0 h2 h3,_,g1,hV,by simp only;omega,by simp[Nat.add_mul]⟩
   ·exact h.elim
 ·rename_i len e iL _ _ _ _ _ ht
  have hk:=mU hT ht
  simp only at hk
  obtain⟨hu,fw⟩:=hk
  simp only[da,aE,decide_eq_true_eq]at h
  obtain⟨⟨h0,h2,h3⟩,h⟩:=h
  have h0:0<iL:=lE h0
  have CW:∀(b o:Nat) (w:World),(Instr.indexAt t (.pointer (some ⟨b,o,none⟩)) (.int k n)).run P w=.ok (.pointer (some ⟨b,o+n.toNat*iL,none⟩)) w:=by
   intro b o w
   simp only[Instr.indexAt,asIntOf,Sem.run_bind,Sem.run_pure,Result.andThen_ok,run_underlying hu,Instr.sureAddr,Sem.run_ite,h2,h3,and_self,if_true,Bu (fw▸h0),fw,FG]
  cases x<;>simp only at h
  case ptr r i off=>
   have wY:K (.ptr r i (off+n.toNat*iL)) R->∃val,K val R/\∀c w v,Mem c w->mH c R->Rep c w (.ptr r i off) v->Gf P (Instr.indexAt t v (.int k n)) w c val:=λh=>
    ⟨_,h,λc w v hm hA hv=>by
     obtain⟨row,g1,gV,g2,hv⟩:=hv
     subst hv
     exact⟨_,CW _ _ w,row,g1,gV,g2,by simp[fY]⟩⟩
   have P8:∀kk,Nat.beq iL 1=true->K (.pa r i off len kk n.toNat) R->∃val,K val R/\∀c w v,Mem c w->mH c R->Rep c w (.ptr r i off) v->Gf P (Instr.indexAt t v (.int k n)) w c val:=λkk h1 h=>
    ⟨_,h,λc w v hm hA hv=>by
     obtain⟨row,g1,gV,g2,hv⟩:=hv
     have h1:=bE h1
     subst hv
     exact⟨_,CW _ _ w,by omega,row,g1,gV,g2,by simp[fY,h1]⟩⟩
   cases UT with
   |true=>exact wY h
   |false=>
    simp only at h
    split at h
    ·exact P8 _ h.1 h.2
    ·exact P8 _ h.1 h.2
    ·exact wY h
  case ir sz es i off=>
   refine⟨_,h,λc w v hm hA hv=>?_⟩
   obtain⟨b,o,arr,ty,fz,hv,hI,hi,hh,hE⟩:=hv
   subst hv
   exact⟨_,CW _ _ w,b,o,arr,ty,fz,by simp[fY],hI,hi,hh,hE⟩
 ·exact h.elim
theorem v7{ev:Operand->D}{x:Option Operand}{n l:Int}{c:Ctx}{w:World}{ρ:Operand->Value}(h:rY x ev n=some l)(hr:∀y,x=some y->Rep c w (ev y) (ρ y)):
 (x=none/\l=n)\/∃y k,x=some y/\ρ y=.int k l:=by
 cases x with
 |none=>simp[rY]at h;exact .inl ⟨rfl,h.symm⟩
 |some y=>
  simp only[rY]at h
  cases hd:ev y<;>simp only[hd]at h<;>try(cases h;done)
  have:=hr y rfl
  rw[hd]at this
  simp only[Option.some.injEq]at h
  subst h
  exact .inr ⟨y,_,rfl,Rep.int.1 this⟩
theorem Z9c{P:Program}{b:Bool}{len cap:Nat}{lo hi:Option Operand}{ev:Operand->D}{l h:Int}{c:Ctx}{w:World}{ρ:Operand->Value}
 (hl:rY lo ev 0=some l) (hh:rY hi ev len=some h) (rz:∀y,lo=some y->Rep c w (ev y) (ρ y)) (AX:∀y,hi=some y->Rep c w (ev y) (ρ y))
 (h0:0<=l) (h1:l<=h) (h2:h<=cap):(Instr.sliceBounds b len cap (lo.map ρ) (hi.map ρ) none).run P w=.ok (l.toNat,h.toNat,cap) w:=by
 have bound:∀(k:IntKind) (i:Int) (y:Nat) (code:BoundsCode),0<=i->i<=y->(Instr.sliceBound (.int k i) y code).run P w=.ok i.toNat w:=by
  intro k i y code a1 a2
  simp[Instr.sliceBound,asIntOf,a1,a2]
 rcases v7 hh AX with⟨rfl,rfl⟩|⟨y,k,rfl,hy⟩<;>rcases v7 hl rz with⟨rfl,rfl⟩|⟨z,k',rfl,hz⟩
 ·simp[Instr.sliceBounds]
 ·simp[Instr.sliceBounds,hz,bound k' l len _ h0 h1]
 ·simp[Instr.sliceBounds,hy,bound k h cap _ (by omega) h2]
 ·simp[Instr.sliceBounds,hy,hz,bound k h cap _ (by omega) h2,bound k' l h.toNat _ h0 (by omega)]
theorem Ku{I:ag}{w:World}:∀{es:List (List D)} {arr:Array Value} {off sz l:Nat},iI I w es arr off sz->iI I w (es.drop l) arr (off+l*sz) sz
 |es,arr,off,sz,0,h=>by simpa using h
 |[],arr,off,sz,l+1,h=>by simp[pM,oi]
 |e::es,arr,off,sz,l+1,h=>by
  simp only[pM,oi]at h
  have:=Ku (l:=l) h.2.2
  rw[show off+(l+1)*sz=off+sz+l*sz by rw[aW];omega]
  simpa using this
theorem Mh{I:ag}{w:World}:∀{es:List (List D)} {arr:Array Value} {off sz n:Nat},iI I w es arr off sz->iI I w (es.take n) arr off sz
 |es,arr,off,sz,0,h=>by simp[pM,oi]
 |[],arr,off,sz,n+1,h=>by simp[pM,oi]
 |e::es,arr,off,sz,n+1,h=>by
  simp only[pM,oi]at h
  simp only[List.take_succ_cons,pM,oi]
  exact⟨h.1,h.2.1,Mh h.2.2⟩
theorem Zdb(s:List UInt8)(l h:Nat):(ByteArray.mk s.toArray).extract l h=⟨((s.drop l).take (h-l)).toArray⟩:=by
 rw[Lib.extract_eq]
theorem Zhx:∀{e:List D} {off n:Nat},(ints e off n).length=n
 |_,_,0=>rfl
 |e,off,n+1=>by simp[ints,Zhx]
theorem Z85{I:ag}{w:World}{k:IntKind}{e:List D}{arr:Array Value}{o:Nat}(h:nP I w e arr o):∀{n off:Nat},off+n<=e.length->CO k e off n=true->iI I w (ao.ints k (ints e off n)).l arr (o+off) 1
 |0,_,_,_=>pM.2 trivial
 |n+1,off,hl,ha=>by
  simp only[CO,aE]at ha
  obtain⟨v,hv,hp⟩:=Uz h (j:=off) (by omega)
  rw[D.j9 ha.1]at hp
  have r:=Z85 h (n:=n) (off:=off+1) (by omega) ha.2
  rw[show o+(off+1)=o+off+1 by omega]at r
  exact oi.2 ⟨rfl,Ak.2 ⟨⟨v,hv,hp⟩,BK.2 trivial⟩,r⟩
theorem yR{P:Program}{T:fq}(hT:jy P T){t:TypeId}{x:D}{lo hi:Option Operand}{ev:Operand->D}{R:Rows}{K:D->Rows->Prop}(h:My T t x lo hi ev R K):
 ∃ val,K val R/\∀c w v (ρ:Operand->Value),Mem c w->mH c R->Rep c w x v->(∀y,lo=some y->Rep c w (ev y) (ρ y))->(∀y,hi=some y->Rep c w (ev y) (ρ y))->
  Gf P (Instr.sliceAt t v (lo.map ρ) (hi.map ρ) none) w c val:=by
 unfold My at h
 split at h
 ·rename_i ht
  have hu:=mU hT ht
  simp only at hu
  cases x<;>simp only at h
  case str s=>
   split at h
   ·rename_i l u hl hh
    try rw[<-ao.iv]at hh
    simp only[da,decide_eq_true_eq]at h
    obtain⟨⟨h0,h1,h2⟩,h⟩:=h
    refine⟨_,h,λc w v ρ hm hA hv rz AX=>?_⟩
    rw[Rep.str.1 hv]
    refine⟨_,?_,rfl⟩
    have hb:=Z9c (P:=P) (b:=false) (len:=s.length) (cap:=s.length) hl hh rz AX h0 h1 h2
    have fw:(ByteArray.mk s.toArray).size=s.length:=by simp[ByteArray.size]
    simp only[Instr.sliceAt,Sem.run_bind,run_underlying hu,Result.andThen_ok,Instr.slice,Option.isSome_none,aN,if_false,fw,hb,Sem.run_pure,Zdb]
   ·exact h.elim
 ·rename_i e iL _ _ _ _ _ ht
  have hk:=mU hT ht
  simp only at hk
  obtain⟨hu,fw⟩:=hk
  have sl:∀(a:Option Addr) (len cap:Nat) (l u:Int) (c:Ctx) (w:World) (ρ:Operand->Value),0<iL->rY lo ev 0=some l->rY hi ev len=some u->(∀y,lo=some y->Rep c w (ev y) (ρ y))->(∀y,hi=some y->Rep c w (ev y) (ρ y))->
   0<=l->l<=u->u<=cap->(Instr.sliceAt t (.slice a len cap) (lo.map ρ) (hi.map ρ) none).run P w=.ok (.slice (if cap=l.toNat then a else a.map (·.add (l.toNat*iL))) (u.toNat-l.toNat) (cap-l.toNat)) w:=by
   intro a len cap l u c w ρ h0 hl hh rz AX g0 g1 g2
   have hb:=Z9c (P:=P) (b:=true) (len:=len) (cap:=cap) hl hh rz AX g0 g1 g2
   simp only[Instr.sliceAt,Sem.run_bind,run_underlying hu,Result.andThen_ok,Instr.slice,hb,Bu (fw▸h0),fw,Sem.run_pure]
  cases x<;>simp only at h
  case sl sz es fr=>
   split at h
   ·rename_i l u hl hh
    try rw[<-ao.iv]at hh
    simp only[da,aE,decide_eq_true_eq,<-ao.iv]at h
    obtain⟨⟨⟨h1,h0⟩,g0,g1,g2⟩,h⟩:=h
    have h1:=bE h1
    have h0:0<iL:=lE h0
    subst h1
    refine⟨_,h,λc w v ρ hm hA hv rz AX=>?_⟩
    obtain⟨a,cap,hv,hc,ij⟩:=hv
    subst hv
    refine⟨_,sl a _ cap l u c w ρ h0 hl hh rz AX g0 g1 (by omega),?_⟩
    have hlen:((es.drop l.toNat).take (u.toNat-l.toNat)).l.length=u.toNat-l.toNat:=by rw[ao.iY,ao.kh];simp only[List.length_take,List.length_drop];omega
    refine⟨_,cap-l.toNat,by rw[hlen],by omega,?_⟩
    rw[ao.iY,ao.kh]
    by_cases hlu:l=u
    ·left
     subst hlu
     simp
    ·rcases ij with ij|⟨b,off,arr,ty,fz,ha,hI,hf,hh,hE⟩
     ·rw[ij]at g2;simp at g2;omega
     ·right
      subst ha
      refine⟨b,off+l.toNat*sz,arr,ty,fz,?_,hI,hf,hh,Mh (Ku hE)⟩
      rw[if_neg (by omega)]
      simp[FG]
   ·exact h.elim
  case all r=>
   split at h
   ·rename_i box ty sz es hR
    split at h
    ·rename_i l u hl hh
     try rw[<-ao.iv]at hh
     simp only[da,aE,decide_eq_true_eq,<-ao.iv]at h
     obtain⟨⟨⟨h1,h0⟩,g0,g1,g2⟩,h⟩:=h
     have h1:=bE h1
     have h0:0<iL:=lE h0
     subst h1
     refine⟨_,h,λc w v ρ hm hA hv rz AX=>?_⟩
     obtain⟨row,k1,k2,hv⟩:=hv
     have:=hA r row _ k1 hR
     subst this
     rcases hv with⟨hV,a,hv,Ay⟩|⟨hV,cap,arr,hv,k3,k4,k5,k6⟩
     ·have he:=(hm.oe k1 hV).2.1
      simp only at he
      rw[he]at g2 hh
      simp at g2
      subst hv
      refine⟨_,sl a 0 0 l u c w ρ h0 hl hh rz AX g0 g1 (by omega),_,k1,k2,by simp only[he,dJ];omega,.inl ⟨by omega,a,?_,.inl Ay⟩⟩
      rw[if_pos (by omega)]
      simp;omega
     subst hv
     simp only at*
     refine⟨_,sl _ _ cap l u c w ρ h0 hl hh rz AX g0 g1 (by omega),_,k1,k2,by simp only;omega,?_⟩
     by_cases gm:cap=l.toNat
     ·left
      exact⟨by omega,some ⟨c.ρ r,0,none⟩,by rw[if_pos gm,show u.toNat-l.toNat=0 by omega,show cap-l.toNat=0 by omega],.inr ⟨hV,λx hx=>by cases hx;rfl⟩⟩
     ·right
      refine⟨hV,cap-l.toNat,arr,by omega,by omega,k5,by rw[if_neg gm];simp[FG],?_⟩
      rw[<-k6];congr 1;omega
    ·exact h.elim
   ·exact h.elim
  case own r o m=>
   split at h
   ·rename_i box ty sz es hR
    split at h
    ·rename_i l u hl hh
     try rw[<-ao.iv]at hh
     simp only[da,aE,decide_eq_true_eq,<-ao.iv]at h
     obtain⟨⟨⟨h1,h0⟩,g0,g1,g2⟩,h⟩:=h
     have h1:=bE h1
     have h0:0<iL:=lE h0
     subst h1
     refine⟨_,h,λc w v ρ hm hA hv rz AX=>?_⟩
     obtain⟨row,k1,k2,k5,hv⟩:=hv
     have:=hA r row _ k1 hR
     subst this
     simp only at*
     rcases hv with⟨k7,a,hv,Ay⟩|⟨hV,cap,arr,k3,k4,k6,hv,k7⟩
     ·subst hv
      subst k7
      refine⟨_,sl a 0 0 l u c w ρ h0 hl hh rz AX g0 g1 (by omega),_,k1,k2,by simp only;omega,.inl ⟨by omega,a,?_,Ay⟩⟩
      rw[if_pos (by omega)]
      simp;omega
     ·subst hv
      refine⟨_,sl _ _ cap l u c w ρ h0 hl hh rz AX g0 g1 (by omega),_,k1,k2,by simp only;omega,?_⟩
      by_cases gm:cap=l.toNat
      ·left
       exact⟨by omega,some ⟨c.ρ r,o*sz,none⟩,by rw[if_pos gm,show u.toNat-l.toNat=0 by omega,show cap-l.toNat=0 by omega],.inr ⟨hV,λx hx=>by cases hx;rfl⟩⟩
      ·right
       refine⟨hV,cap-l.toNat,arr,by omega,by omega,k6,by rw[if_neg gm];simp[FG,Nat.add_mul],?_⟩
       simp only
       rw[<-k7];congr 1;omega
    ·exact h.elim
   ·exact h.elim
 ·rename_i len e iL _ _ _ _ _ ht
  have hk:=mU hT ht
  simp only at hk
  obtain⟨hu,fw⟩:=hk
  cases x
  case ir sz es i off=>
   split at h
   ·rename_i heq
    cases heq
    split at h
    ·rename_i k _ _ _ _ _ he
     simp only[da,aE]at h
     obtain⟨⟨h1,h2,h3⟩,h⟩:=h
     have h1:=bE h1
     have h2:=lE h2
     subst h1
     refine⟨_,h,λc w v ρ hm hA hv _ _=>?_⟩
     obtain⟨b,o,arr,ty,fz,hv,hI,hi,hh,hE⟩:=hv
     subst hv
     obtain⟨q1,q2⟩:=UA hE hi
     rw[ao.nm es (by rw[<-ao.iv];exact hi)]at q1 q2
     have hlen:(ao.ints k (ints (es.get i) off len)).l.length=len:=by simp[ao.l,Zhx]
     refine⟨.slice (some (if len=0 then⟨b,o+i*sz+off,none⟩else Addr.add ⟨b,o+i*sz+off,none⟩ (0*1))) len len,?_,⟨_,len,by rw[hlen],by rw[hlen];exact aO _,.inr ⟨b,o+i*sz+off,arr,ty,fz,?_,hI,(λhf=>by cases hf),hh,Z85 q2 (by omega) h3⟩⟩⟩
     ·simp only[Instr.sliceAt,Instr.sureAddr,Instr.sliceBounds,Sem.run_bind,run_underlying hu,Result.andThen_ok,Sem.run_pure,Bu (fw▸Nat.zero_lt_one),fw,Option.map_none,gC]
     ·congr 1
      split
      ·rfl
      ·simp[FG]
    ·exact h.elim
   ·exact h.elim
  all_goals exact h.elim
 ·exact h.elim
theorem zaO{P:Program}{T:fq}(hT:jy P T){t t':TypeId}{x:D}{R:Rows}{K:D->Rows->Prop}(h:sX T t x R K):
 ∃val,K val R/\∀c w v,Mem c w->mH c R->Rep c w x v->Gf P (Builtin.len_ #[t] t' #[v]) w c val:=by
 unfold sX at h
 split at h
 ·rename_i ht
  have hu:=mU hT ht
  simp only at hu
  cases x<;>simp only at h
  rename_i s
  refine⟨_,h,λc w v hm hA hv=>⟨_,?_,rfl⟩⟩
  rw[Rep.str.1 hv]
  have fw:(ByteArray.mk s.toArray).size=s.length:=by simp[ByteArray.size]
  have h0:(#[t]:Array TypeId)[0]?=some t:=rfl
  have h1:(#[Value.string ⟨s.toArray⟩]:Array Value)[0]?=some (Value.string ⟨s.toArray⟩):=rfl
  unfold Builtin.len_
  simp only[h0,h1,Sem.run_bind,run_underlying hu,Result.andThen_ok,goInt,fw,Sem.run_pure]
 ·rename_i e iL _ _ _ _ _ ht
  have hk:=mU hT ht
  simp only at hk
  obtain⟨hu,fw⟩:=hk
  have ln:∀(a:Option Addr) (n cap:Nat) (w:World),(Builtin.len_ #[t] t' #[.slice a n cap]).run P w=.ok (.int .i64 n) w:=by
   intro a n cap w
   simp[Builtin.len_,run_underlying hu,goInt]
  cases x<;>simp only at h
  case du=>exact⟨_,h,λc w v hm hA hv=>⟨_,by rw[show v=_ from hv];exact ln _ _ _ w,rfl⟩⟩
  case emp=>exact⟨_,h,λc w v hm hA hv=>by obtain⟨a,hv,_⟩:=hv;subst hv;exact⟨_,ln _ _ _ w,rfl⟩⟩
  case sl sz es fr=>
   refine⟨_,h,λc w v hm hA hv=>?_⟩
   obtain⟨a,cap,hv,_⟩:=hv
   subst hv
   exact⟨_,ln _ _ _ w,by rw[ao.iv];rfl⟩
  case all r=>
   split at h
   ·rename_i box ty sz es hR
    refine⟨_,h,λc w v hm hA hv=>?_⟩
    obtain⟨row,k1,k2,hv⟩:=hv
    have:=hA r row _ k1 hR
    subst this
    rcases hv with⟨hV,a,hv,_⟩|⟨hV,cap,arr,hv,k3,k4,k5,k6⟩
    ·have he:=(hm.oe k1 hV).2.1
     simp only at he
     subst hv
     refine⟨_,ln _ _ _ w,?_⟩
     rw[<-ao.iv,he];rfl
    ·subst hv
     exact⟨_,ln _ _ _ w,by simp only[ao.iv];rfl⟩
   ·exact h.elim
  case own r o m=>
   refine⟨_,h,λc w v hm hA hv=>?_⟩
   obtain⟨row,k1,k2,k5,hv⟩:=hv
   rcases hv with⟨h0,a,hv,_⟩|⟨hV,cap,arr,k3,k4,k6,hv,k7⟩
   ·subst hv;subst h0;exact⟨_,ln _ _ _ w,rfl⟩
   ·subst hv;exact⟨_,ln _ _ _ w,rfl⟩
 ·exact h.elim
theorem jm.set{c:Ctx}{w:World}:∀{ds:List D} {vs:List Value} {d:D} {v:Value} (i:Nat),jm c w ds vs->cu c w d v->jm c w (ds.set i d) (vs.set i v)
 |[],[],_,_,_,h,_=>by simpa using h
 |[],_::_,_,_,_,h,_=>h.elim
 |_::_,[],_,_,_,h,_=>h.elim
 |a::ds,b::vs,d,v,0,h,hd=>⟨hd,h.2⟩
 |a::ds,b::vs,d,v,i+1,h,hd=>⟨h.1,jm.set i h.2 hd⟩
theorem jm.length{c:Ctx}{w:World}{ds:List D}{vs:List Value}(h:jm c w ds vs):ds.length=vs.length:=(En.1 h).1
theorem Rep.cells{c:Ctx}{w:World}{d:D}{v:Value}(hd:d.isVal=true)(h:Rep c w d v):jm c w d.cells v.cells.toList:=by
 have one:∀d':D,cu c w d' v->jm c w [d'] v.cells.toList:=λd' h'=>by
  have h1:=h'.one
  have:v.cells= #[v]:=by cases v<;>first|rfl|(simp[Value.oneCell']at h1)
  rw[this]
  exact⟨h',trivial⟩
 cases d with
 |agg cs=>
  obtain⟨vs,hv,hr⟩:=h
  subst hv
  simpa[Value.cells,D.cells]using hr
 |dt ds=>simp[D.isVal]at hd
 |dead=>simp[D.isVal]at hd
 |_=>exact one _ h
theorem P9:∀{xs:List D} {ds:List D} {off:Nat},(lh ds off xs).length=ds.length
 |[],_,_=>rfl
 |x::xs,ds,off=>by unfold lh;rw[P9];simp
def pD:List Value->Nat->List Value->List Value
 |e,_,[]=>e
 |e,off,v::vs=>pD (e.set off v) (off+1) vs
theorem Qy9{c:Ctx}{w:World}:∀{xs:List D} {us:List Value} {ds:List D} {vs:List Value} {off:Nat},jm c w ds vs->jm c w xs us->jm c w (lh ds off xs) (pD vs off us)
 |[],[],_,_,_,h,_=>h
 |[],_::_,_,_,_,_,h=>h.elim
 |_::_,[],_,_,_,_,h=>h.elim
 |x::xs,u::us,ds,vs,off,h,hx=>by unfold lh pD;exact Qy9 (h.set off hx.1) hx.2
theorem Qrw:∀(us:List Value) (k off:Nat) (cells:Array Value),
 ((us.zipIdx k).foldl (λcs (x:Value×Nat)=>cs.setIfInBounds (off+x.2) x.1) cells).toList=pD cells.toList (off+k) us
 |[],_,_,_=>by simp[pD]
 |u::us,k,off,cells=>by
  simp only[List.zipIdx_cons,List.foldl_cons,pD]
  rw[Qrw us (k+1) off]
  simp[Array.toList_setIfInBounds,fY]
theorem Zgb(v:Value)(off:Nat)(cells:Array Value):
 (v.cells.zipIdx.foldl (λcs (x:Value×Nat)=>cs.setIfInBounds (off+x.2) x.1) cells).toList=pD cells.toList off v.cells.toList:=by
 rw[<-Array.foldl_toList,Array.toList_zipIdx]
 exact Qrw v.cells.toList 0 off cells
theorem ZG{place:Nat->Option (Nat×Nat)}{ev:Operand->D}:∀{parts:List (Nat×Operand)} {ds:List D} {K:List D->Prop},FV place ev parts ds K->
 ∃ om,K om/\∀c w (ρ:Operand->Value) (cells:Array Value),jm c w ds cells.toList->(∀p∈parts,Rep c w (ev p.2) (ρ p.2))->
  ∃fe,Instr.fill place cells (parts.map λp=>(p.1,ρ p.2))=some fe/\jm c w om fe.toList
 |[],ds,K,h=>⟨ds,D.fj.1 h,λc w ρ cells hr _=>⟨cells,rfl,hr⟩⟩
 |(i,x)::ps,ds,K,h=>by
  unfold FV at h
  split at h
  ·rename_i off n hp
   simp only[da,aE]at h
   obtain⟨⟨⟨hv,hn⟩,hle⟩,h⟩:=h
   have hn:=bE hn
   have hle:=lE hle
   obtain⟨om,hK,hr⟩:=ZG h
   refine⟨om,hK,λc w ρ cells hc mb=>?_⟩
   have hx:=Rep.cells hv (mb (i,x) (by simp))
   have hlen:(ρ x).cells.size=n:=by rw[<-hn,hx.length];simp
   have fw:cells.size=ds.length:=by rw[hc.length];simp
   have fh:jm c w (lh ds off (ev x).cells) ((ρ x).cells.zipIdx.foldl (λcs (x:Value×Nat)=>cs.setIfInBounds (off+x.2) x.1) cells).toList:=by
    rw[Zgb];exact Qy9 hc hx
   obtain⟨fe,h1,h2⟩:=hr c w ρ _ fh (λp hp=>mb p (by simp[hp]))
   refine⟨fe,?_,h2⟩
   simp only[fR,Instr.fill,hp]
   rw[if_neg (by simp;omega)]
   exact h1
  ·exact h.elim
theorem Za5{v:Value}{d:D}(h:QA v=some d)(c:Ctx)(w:World):cu c w d v:=by
 cases v<;>simp only[QA]at h<;>first|(cases h;done)|skip
 case nilIface=>simp at h;subst h;rfl
 case nilFunc=>simp at h;subst h;rfl
 case bool b=>simp at h;subst h;rfl
 case int k n=>simp at h;subst h;rfl
 case string s=>simp at h;subst h;simp[cu]
 case pointer a=>cases a<;>simp at h;subst h;rfl
 case slice a n cp=>
  split at h
  all_goals first|(simp at h;subst h;simp_all [cu];done)|(simp_all;done)
theorem JJ:∀{vs:List Value} {ds:List D},Bt vs=some ds->∀(c:Ctx) (w:World),jm c w ds vs
 |[],ds,h,c,w=>by simp[Bt]at h;subst h;trivial
 |v ::vs,ds,h,c,w=>by
  simp only[Bt]at h
  split at h
  ·rename_i d l h1 h2
   simp at h;subst h
   exact⟨Za5 h1 c w,JJ h2 c w⟩
  ·cases h
theorem M5{v:Value}{d:D}(h:Gd v=some d)(c:Ctx)(w:World):Rep c w d v:=by
 have one:QA v=some d->Rep c w d v:=λh=>by
  have:=Za5 h c w
  cases d<;>first|exact this|trivial|exact this.elim
 cases v with
 |agg cs=>
  simp only[Gd,fQ]at h
  obtain⟨ds,h1,h2⟩:=h
  subst h2
  exact⟨cs.toList,by simp,JJ h1 c w⟩
 |_=>exact one h
theorem Jz{P:Program}{T:fq}(hT:jy P T){t:TypeId}{k:TK}{a b:Nat}{cs:List rb}{z:List D}{e:Bool}(h:T.get t=some ⟨k,a,b,cs,some z,e⟩):
 ∃i u,P.info? t=some i/\i.zero=some u/\Bt u.cells.toList=some z/\i.size=a/\i.bytes=b/\P.cellsOf t=a/\∀w,(zeroValue t).run P w=.ok u w:=by
 obtain⟨i,hi,hs,hb,hl,hk,hz,_⟩:=DE (hT.get h)
 simp only at hz hs hb
 have hz:=hz.symm
 simp only[Option.bind_eq_some_iff]at hz
 obtain⟨u,hu,hz⟩:=hz
 refine⟨i,u,hi,hu,hz,hs,hb,by simp[Program.cellsOf,hi,hs],λw=>?_⟩
 simp[zeroValue,typeInfo,hi,hu]
theorem Z9a{P:Program}(w:World):∀(fs:List Field),(∀f∈fs,0<P.cellsOf f.type)->
 (fs.mapM λf=>do pure (f.offset,<-sizeOf f.type):Sem (List (Nat×Nat))).run P w=.ok (fs.map λf=>(f.offset,P.cellsOf f.type)) w
 |[],_=>rfl
 |f::fs,h=>by
  simp only[List.mapM_cons,Sem.run_bind,Bu (h f (by simp)),Result.andThen_ok,Sem.run_pure,Z9a w fs (λg hg=>h g (by simp[hg])),fR]
theorem vR{P:Program}{T:fq}(hT:jy P T){t:TypeId}{parts:List (Nat×Operand)}{ev:Operand->D}{R:Rows}{K:D->Rows->Prop}(h:Mz T t parts ev R K):
 ∃val,K val R/\∀c w (ρ:Operand->Value),(∀p∈parts,Rep c w (ev p.2) (ρ p.2))->Gf P (Instr.build t (parts.map λp=>(p.1,ρ p.2)).toArray) w c val:=by
 unfold Mz at h
 split at h
 ·rename_i fs _ _ _ ds _ ht
  obtain⟨i,u,hi,hu,hz,_,_,_,hzero⟩:=Jz hT ht
  obtain⟨gs,hd,Nu⟩:=mU hT ht
  rw[da]at h
  obtain⟨uo,h⟩:=h
  have uo:∀f∈gs.toList,0<P.cellsOf f.type:=λf hf=>by
   have:=List.all_eq_true.1 uo (f.offset,f.type,P.cellsOf f.type) (by rw[Nu];exact List.mem_map.2 ⟨f,hf,rfl⟩)
   exact lE this
  obtain⟨om,hK,hr⟩:=ZG h
  refine⟨_,hK,λc w ρ mb=>?_⟩
  obtain⟨fe,h1,h2⟩:=hr c w ρ u.cells (JJ hz c w) mb
  refine⟨.agg fe,?_,fe.toList,by simp,h2⟩
  have ZH:(gs.mapM λf=>do pure (f.offset,<-sizeOf f.type):Sem (Array (Nat×Nat))).run P w=.ok (gs.map λf=>(f.offset,P.cellsOf f.type)) w:=by
   have:=Z9a (P:=P) w gs.toList uo
   rw[<-bS (xs:=gs),List.mapM_toArray]
   simp only[Sem.run_map,this,Result.andThen_ok,bS]
   congr 1
   apply Array.ext'
   simp
  have DH:(λ(i:Nat)=>(gs.map λf=>(f.offset,P.cellsOf f.type))[i]?)=(λ(i:Nat)=>(fs[i]?).map λ(f:Nat×TypeId×Nat)=>(f.1,f.2.2)):=by
   funext i
   rw[Nu]
   simp
   cases gs[i]? <;>rfl
  unfold Instr.build
  simp only[Sem.run_bind,hzero,Result.andThen_ok,run_underlying hd,ZH]
  rw[DH]
  simp only[h1,Sem.run_pure]
 ·rename_i m e iL _ _ _ ds _ ht
  obtain⟨i,u,hi,hu,hz,_,_,_,hzero⟩:=Jz hT ht
  have hk:=mU hT ht
  simp only at hk
  rw[da]at h
  obtain⟨h0,h⟩:=h
  have h0:0<iL:=lE h0
  obtain⟨om,hK,hr⟩:=ZG h
  refine⟨_,hK,λc w ρ mb=>?_⟩
  obtain⟨fe,h1,h2⟩:=hr c w ρ u.cells (JJ hz c w) mb
  refine⟨.agg fe,?_,fe.toList,by simp,h2⟩
  unfold Instr.build
  simp only[Sem.run_bind,hzero,Result.andThen_ok,run_underlying hk.1,Bu (hk.2▸h0),hk.2]
  simp only[h1,Sem.run_pure]
 ·exact h.elim
def UW(c:Ctx)(w:World)(row:Row)(arr:Array Value):Prop:=
 0<row.sz/\if row.box then∃e,row.es=.gen [e]/\e.length=row.sz/\arr.size=row.sz/\kJ c w e arr 0 else iI c.I w row.es.l arr 0 row.sz
def UL(P:Program)(x:Sem Value)(w:World)(c:Ctx)(k:Nat)(row:Row)(d:D):Prop:=
 ∃u arr,x.run P w=.ok u (w.alloc (.cells arr row.ty))/\UW c w row arr/\(c.R k=none->Mem c w->Rep (c.add k row w.heap.size) (w.alloc (.cells arr row.ty)) d u)
theorem Zgd{c:Ctx}{w:World}:∀{ds:List D} {vs:List Value} {pre:List Value},jm c w ds vs->kJ c w ds (pre++vs).toArray pre.length
 |[],_,_,_=>trivial
 |d::ds,[],_,h=>h.elim
 |d::ds,v::vs,pre,h=>by
  refine⟨⟨v,by simp,h.1⟩,?_⟩
  have:=Zgd (pre:=pre++[v]) h.2
  simpa using this
theorem ZI{c:Ctx}{w:World}{t:TypeId}{sz:Nat}{ds:List D}{vs:Array Value}(h0:0<sz)(hl:ds.length=sz)(h:jm c w ds vs.toList):UW c w ⟨true,t,sz,.gen [ds]⟩ vs:=by
 refine⟨h0,?_⟩
 simp only[if_true]
 refine⟨ds,rfl,hl,by rw[<-hl,h.length];simp,?_⟩
 have:=Zgd (pre:=[]) h
 simpa using this
theorem ZJ(P:Program)(t:TypeId)(v:Value)(w:World):(newVar t v).run P w=.ok ⟨w.heap.size,0,none⟩ (w.alloc (.cells v.cells t)):=rfl
theorem Zlp{P:Program}{T:fq}(hT:jy P T){t:TypeId}{k:TK}{sz b:Nat}{cs:List rb}{ds:List D}{e:Bool}(ht:T.get t=some ⟨k,sz,b,cs,some ds,e⟩)(h0:0<sz)(hl:ds.length=sz)(n:Nat)(c:Ctx)(w:World):
 UL P (Instr.alloc t true (.tuple #[])) w c n ⟨true,t,sz,.gen [ds]⟩ (.ptr n 0 0):=by
 obtain⟨i,u,hi,hu,hz,_,_,_,hzero⟩:=Jz hT ht
 refine⟨.pointer (some ⟨w.heap.size,0,none⟩),u.cells,?_,ZI h0 hl (JJ hz c w),λ_ _=>?_⟩
 ·simp only[Instr.alloc,Sem.run_bind,hzero,Result.andThen_ok,ZJ,Sem.run_pure]
 ·exact⟨_,(Ctx.iZ _ _ _ _).1,by simp[Ctx.add],by simp[ao.len],by simp[(Ctx.iZ _ _ _ _).2]⟩
theorem xaO{P:Program}{t:TypeId}{sz:Nat}{d:D}{v:Value}(h0:0<sz)(hv:d.isVal=true)(hl:d.cells.length=sz)(n:Nat)(c:Ctx)(w:World)(hr:Rep c w d v):
 UL P (Instr.box t v) w c n ⟨true,t,sz,.gen [d.cells]⟩ (.ptr n 0 0):=by
 refine⟨.pointer (some ⟨w.heap.size,0,none⟩),v.cells,?_,ZI h0 hl (Rep.cells hv hr),λ_ _=>?_⟩
 ·simp only[Instr.box,Sem.run_bind,ZJ,Result.andThen_ok,Sem.run_pure]
 ·exact⟨_,(Ctx.iZ _ _ _ _).1,by simp[Ctx.add],by simp[ao.len],by simp[(Ctx.iZ _ _ _ _).2]⟩
theorem tR{I:ag}{w:World}:∀{cs:List D} {arr:Array Value} {off:Nat},nP I w cs arr off↔ ∀j,j<cs.length->∃v,arr[off+j]?=some v/\fx I w (cs.getD j .dead) v
 |[],arr,off=>by simp[BK,Ak]
 |d ::cs,arr,off=>by
  simp only[BK,Ak,tR (cs:=cs)]
  constructor
  ·rintro⟨h1,h2⟩ j hj
   cases j with
   |zero=>simpa using h1
   |succ j=>
    have:=h2 j (by simpa using hj)
    rw[show off+1+j=off+(j+1) by omega]at this
    simpa using this
  ·intro h
   refine⟨by simpa using h 0 (by simp),λj hj=>?_⟩
   have:=h (j+1) (by simpa using hj)
   rw[show off+(j+1)=off+1+j by omega]at this
   simpa using this
theorem wa{I:ag}{w:World}:∀{es:List (List D)} {arr:Array Value} {off sz:Nat},iI I w es arr off sz↔ ∀i,i<es.length->(es.getD i []).length=sz/\nP I w (es.getD i []) arr (off+i*sz)
 |[],arr,off,sz=>by simp[pM,oi]
 |e ::es,arr,off,sz=>by
  simp only[pM,oi,wa (es:=es)]
  constructor
  ·rintro⟨h1,h2,h3⟩ i hi
   cases i with
   |zero=>simpa using⟨h1,h2⟩
   |succ i=>
    have:=h3 i (by simpa using hi)
    rw[show off+sz+i*sz=off+(i+1)*sz by rw[aW];omega]at this
    simpa using this
  ·intro h
   have h0:=h 0 (by simp)
   simp at h0
   refine⟨h0.1,h0.2,λi hi=>?_⟩
   have:=h (i+1) (by simpa using hi)
   rw[show off+(i+1)*sz=off+sz+i*sz by rw[aW];omega]at this
   simpa using this
theorem Z9x{c:Ctx}{w:World}:∀{cs:List D} {arr:Array Value} {off:Nat},kJ c w cs arr off↔ ∀j,j<cs.length->∃v,arr[off+j]?=some v/\cu c w (cs.getD j .dead) v
 |[],arr,off=>by simp[kJ]
 |d ::cs,arr,off=>by
  simp only[kJ,Z9x (cs:=cs)]
  constructor
  ·rintro⟨h1,h2⟩ j hj
   cases j with
   |zero=>simpa using h1
   |succ j=>
    have:=h2 j (by simpa using hj)
    rw[show off+1+j=off+(j+1) by omega]at this
    simpa using this
  ·intro h
   refine⟨by simpa using h 0 (by simp),λj hj=>?_⟩
   have:=h (j+1) (by simpa using hj)
   rw[show off+(j+1)=off+1+j by omega]at this
   simpa using this
theorem QB:∀{us vs:List Value} {off k:Nat},off+us.length<=vs.length->(pD vs off us)[k]?=if off<=k/\k<off+us.length then us[k-off]? else vs[k]?
 |[],vs,off,k,_=>by
  have:¬(off<=k/\k<off):=by omega
  simp[pD,this]
 |u ::us,vs,off,k,h=>by
  simp only[dI]at h
  unfold pD
  rw[QB (us:=us) (by simp;omega)]
  by_cases h1:off+1<=k/\k<off+1+us.length
  ·rw[if_pos h1,if_pos (by simp;omega)]
   rw[show k-off=(k-(off+1))+1 by omega]
   simp
  ·rw[if_neg h1]
   by_cases h2:k=off
   ·subst h2
    rw[if_pos (by simp)]
    simp only[gD,gE]
    rw[gG (by omega)]
   ·rw[if_neg (by simp;omega),gH (by omega)]
theorem UX:∀{us vs:List Value} {off:Nat},(pD vs off us).length=vs.length
 |[],_,_=>rfl
 |u::us,vs,off=>by unfold pD;rw[UX];simp
theorem HC:∀{us vs:List D} {off k:Nat},off+us.length<=vs.length->(lh vs off us)[k]?=if off<=k/\k<off+us.length then us[k-off]? else vs[k]?
 |[],vs,off,k,_=>by
  have:¬(off<=k/\k<off):=by omega
  simp[lh,this]
 |u ::us,vs,off,k,h=>by
  simp only[dI]at h
  unfold lh
  rw[HC (us:=us) (by simp;omega)]
  by_cases h1:off+1<=k/\k<off+1+us.length
  ·rw[if_pos h1,if_pos (by simp;omega)]
   rw[show k-off=(k-(off+1))+1 by omega]
   simp
  ·rw[if_neg h1]
   by_cases h2:k=off
   ·subst h2
    rw[if_pos (by simp)]
    simp only[gD,gE]
    rw[gG (by omega)]
   ·rw[if_neg (by simp;omega),gH (by omega)]
theorem cu.plain{c:Ctx}{w:World}{d:D}{v:Value}(hp:d.plain=true)(h:cu c w d v):fx c.I w d v:=by
 cases d<;>(try(simp[D.plain]at hp;done))
 case bool=>exact si.2 h
 case int=>exact rL.2 h
 case str=>exact sj.2 h
 case iK=>exact sq.2 h
 case du=>exact sr.2 h
 case emp=>exact ss.2 (let⟨a,g,_⟩:=h;⟨a,g⟩)
 obtain⟨a,cap,hv,hc,ij⟩:=h
 refine tv.2 ⟨a,cap,hv,hc,?_⟩
 rcases ij with ij|⟨b,off,arr,ty,fz,ha,hI,hf,hh,hE⟩
 ·exact .inl ij
 ·exact .inr ⟨b,off,arr,ty,fz,ha,hI,hh,SU.2 hE⟩
theorem Qzg{c:Ctx}{w:World}{es:List (List D)}{arr:List Value}{sz i off:Nat}{xs:List D}{us:List Value}(h:iI c.I w es arr.toArray 0 sz)(hi:i<es.length)(QC:off+xs.length<=sz)
 (hx:jm c w xs us) (hp:xs.all D.plain=true) (ha:i*sz+sz<=arr.length):iI c.I w (es.set i (lh (es.getD i []) off xs)) (pD arr (i*sz+off) us).toArray 0 sz:=by
 have hlen:=hx.length
 rw[wa]at h⊢
 intro k hk
 have EF:k<es.length:=by simpa using hk
 obtain⟨h1,h2⟩:=h k EF
 rw[tR]at h2
 by_cases nZ:k=i
 ·subst nZ
  have he:(es.set k (lh (es.getD k []) off xs)).getD k []=lh (es.getD k []) off xs:=by simp[aK,EF]
  rw[he]
  refine⟨by rw[P9];exact h1,?_⟩
  rw[tR]
  intro j hj
  rw[P9,h1]at hj
  have hg:(lh (es.getD k []) off xs).getD j .dead=if off<=j/\j<off+xs.length then(xs.getD (j-off) .dead)else(es.getD k []).getD j .dead:=by
   simp only[aK]
   rw[HC (by simp only[aK]at h1;omega)]
   split<;>rfl
  have hv:(pD arr (k*sz+off) us).toArray[0+k*sz+j]?=if off<=j/\j<off+xs.length then us[j-off]? else arr[k*sz+j]? :=by
   simp only[aY,aX]
   rw[QB (by omega)]
   by_cases hc:off<=j/\j<off+xs.length
   ·rw[if_pos (by omega),if_pos hc];congr 1;omega
   ·rw[if_neg (by omega),if_neg hc]
  rw[hg,hv]
  split
  ·rename_i hc
   have QD:j-off<us.length:=by omega
   have ZH:(xs.getD (j-off) .dead).plain=true:=by
    have hm:xs.getD (j-off) .dead∈xs:=by
     simp only[aK,cG (show j-off<xs.length by omega),aG]
     exact fI _
    exact List.all_eq_true.1 hp _ hm
   exact⟨us[j-off],cG QD,cu.plain ZH ((En.1 hx).2 _ _ (cG QD))⟩
  ·obtain⟨v,JG,Mt⟩:=h2 j (by rw[h1];exact hj)
   exact⟨v,by simpa using JG,Mt⟩
 ·have he:(es.set i (lh (es.getD i []) off xs)).getD k []=es.getD k []:=by
   simp[aK,gH (Ne.symm nZ)]
  rw[he]
  refine⟨h1,?_⟩
  rw[tR]
  intro j hj
  obtain⟨v,JG,Mt⟩:=h2 j hj
  refine⟨v,?_,Mt⟩
  simp only[aY,aX]at JG⊢
  rw[QB (by omega),if_neg]
  ·exact JG
  ·rw[h1]at hj
   rintro⟨g1,g2⟩
   rcases Nat.lt_or_gt_of_ne nZ with cf|cf
   ·have:=aV sz (show k+1<=i by omega)
    rw[aW]at this
    omega
   ·have:=aV sz (show i+1<=k by omega)
    rw[aW]at this
    omega
theorem Z5a{I:ag}{w:World}{es:List (List D)}{arr:Array Value}{sz i:Nat}(h:iI I w es arr 0 sz)(h0:0<sz)(hi:i<es.length):i*sz+sz<=arr.size:=by
 obtain⟨h1,h2⟩:=wa.1 h i hi
 obtain⟨v,hv,_⟩:=tR.1 h2 (sz-1) (by omega)
 have:=(Array.getElem?_eq_some_iff.1 hv).1
 omega
def Ctx.jA(c:Ctx)(r:Nat)(row:Row):Ctx:={c with R:=λs=>if s=r then some row else c.R s}
theorem SB(w:World)(g:Nat)(cs:Array Value):Fr (λb=>b=g) w (w.setRow g cs):=
 ⟨rfl,rfl,rfl,by simp[World.setRow],λb _ hb=>setRow_other w g b cs hb⟩
theorem Mem.write{c:Ctx}{w:World}(hm:Mem c w){r:Nat}{row ak:Row}{jz arr:Array Value}(hr:c.R r=some row)(hV:¬c.V r)(hh:w.heap[c.ρ r]?=some (.cells jz row.ty (0,0)))(fw:arr.size=jz.size)
 (h1:ak.box=row.box) (h2:ak.ty=row.ty) (h3:ak.sz=row.sz) (h4:ak.es.l.length=row.es.l.length):
 jk c w (c.jA r ak) (w.setRow (c.ρ r) arr)/\(UW (c.jA r ak) (w.setRow (c.ρ r) arr) ak arr->Mem (c.jA r ak) (w.setRow (c.ρ r) arr)):=by
 have fh:(w.setRow (c.ρ r) arr).heap[c.ρ r]?=some (.cells arr row.ty (0,0)):=setRow_heap w _ _ _ _ _ hh
 have CF:∀s x,c.R s=some x->¬c.V s->s≠r->(w.setRow (c.ρ r) arr).heap[c.ρ s]?=w.heap[c.ρ s]? :=λs x hs hv gr=>setRow_other w _ _ _ (λe=>gr (hm.inj s r x row hs hr hv hV e))
 have hg:jk c w (c.jA r ak) (w.setRow (c.ρ r) arr):=by
  refine⟨rfl,aO _,λb hb=>⟨hb,setRow_other w _ _ _ (λe=>(hm.fu b hb).2 r row hr hV e.symm)⟩,λs x hs=>?_⟩
  by_cases e:s=r
  ·subst e
   rw[hr]at hs;cases hs
   exact⟨ak,by simp[Ctx.jA],h1,h2,h3,h4,rfl,Iff.rfl,λ_ a ha=>⟨arr,fh,by rw[hh]at ha;cases ha;exact fw⟩⟩
  ·exact⟨x,by simp[Ctx.jA,e,hs],rfl,rfl,rfl,rfl,rfl,Iff.rfl,λnv a ha=>⟨a,by rw[CF s x hs nv e];exact ha,rfl⟩⟩
 refine⟨hg,λhi=>⟨λs x hs=>?_,λs q x y hs hq v1 v2 he=>?_,λb hb=>?_,by show c.top<=(w.setRow _ _).heap.size;simpa[World.setRow]using hm.top,hm.kM.mono hg.I⟩⟩
 ·by_cases e:s=r
  ·subst e
   simp only[Ctx.jA,if_true,Option.some.injEq]at hs
   subst hs
   exact .inr ⟨hV,arr,by rw[h2];exact fh,hi.1,hi.2⟩
  ·have ji:c.R s=some x:=by simpa[Ctx.jA,e]using hs
   exact tS hg rfl Iff.rfl (λnv=>CF s x ji nv e) (hm.row s x ji)
 ·have jz:∀s x,(c.jA r ak).R s=some x->∃x',c.R s=some x':=λs x hs=>by
   by_cases e:s=r
   ·exact⟨row,by rw[e];exact hr⟩
   ·exact⟨x,by simpa[Ctx.jA,e]using hs⟩
  obtain⟨x',jD⟩:=jz s x hs
  obtain⟨y',Ai⟩:=jz q y hq
  exact hm.inj s q x' y' jD Ai v1 v2 he
 ·obtain⟨g1,g2⟩:=hm.fu b hb
  refine⟨by simpa[World.setRow]using g1,λs x hs hv=>?_⟩
  by_cases e:s=r
  ·subst e;exact g2 s row hr hV
  ·exact g2 s x (by simpa[Ctx.jA,e]using hs) hv
theorem Zjd{P:Program}{t:TypeId}{n:Nat}(hs:P.cellsOf t=n)(h0:0<n){w:World}{g o:Nat}{ty:TypeId}{cur:Array Value}(hg:w.heap[g]?=some (.cells cur ty (0,0))){v:Value}(hn:v.cells.size=n)(hr:o+n<=cur.size)(h1:∀u∈v.cells.toList,u.oneCell'=true):
 (Instr.storeAt t (.pointer (some ⟨g,o,none⟩)) v).run P w=.ok () (w.setRow g (pD cur.toList o v.cells.toList).toArray):=by
 have h:=run_storeCells_at (P:=P) g o ty v.cells.toList 0 cur w hg (by simp;omega) h1
 have gr:¬v.cells.size≠P.cellsOf t:=by omega
 simp only[Instr.storeAt,Instr.sureAddr,Sem.run_bind,Sem.run_pure,Result.andThen_ok,storeVar,Bu (hs▸h0),Sem.run_ite,gr,if_false,h]
 congr 3
 apply gI
 intro k
 rw[QB (by simp;omega)]
 simp only[bG,Array.length_toList]
 by_cases hc:o<=k/\k<o+v.cells.size
 ·rw[if_pos hc,fF,bB (by simp;omega),aZ (by simp;omega)]
  congr 1;simp;omega
 ·rw[if_neg hc]
  by_cases hk:k<o
  ·rw[fF,aZ (by simp;omega),List.getElem?_take_of_lt hk]
  ·rw[bB (by simp;omega),List.getElem?_drop]
   congr 1;simp;omega
theorem jm.one{c:Ctx}{w:World}:∀{ds:List D} {vs:List Value},jm c w ds vs->∀u∈vs,u.oneCell'=true
 |[],[],_,_,h=>by simp at h
 |d::ds,v::vs,h,u,hu=>by
  rcases List.mem_cons.1 hu with e|e
  ·subst e;exact cu.one h.1
  ·exact jm.one h.2 u e
theorem Zh0{c:Ctx}{w:World}{e:List D}{arr:List Value}{off:Nat}{xs:List D}{us:List Value}(h:kJ c w e arr.toArray 0)(QC:off+xs.length<=e.length)(he:e.length=arr.length)
 (hx:jm c w xs us):kJ c w (lh e off xs) (pD arr off us).toArray 0:=by
 have hlen:=hx.length
 rw[Z9x]at h⊢
 intro j hj
 rw[P9]at hj
 simp only[aK,aY,aX]at h⊢
 rw[HC QC,QB (by omega)]
 by_cases hc:off<=j/\j<off+xs.length
 ·rw[if_pos hc,if_pos (by omega)]
  have QD:j-off<us.length:=by omega
  exact⟨us[j-off],cG QD,(En.1 hx).2 _ _ (cG QD)⟩
 ·rw[if_neg hc,if_neg (by omega)]
  exact h j hj
def sY(P:Program)(x:Sem Unit)(w:World)(c:Ctx)(R':Rows):Prop:=
 ∃r ak arr w',x.run P w=.ok () w'/\w'=w.setRow (c.ρ r) arr/\(∃row,c.R r=some row)/\¬c.V r/\jk c w (c.jA r ak) w'/\Mem (c.jA r ak) w'/\∀s,(c.jA r ak).R s=R'.getD s none
theorem Z8p{k:IntKind}{l:List Int}:∀{n j i:Nat},i<n->(HD k l j n)[i]?=some (.int k (l.getD (j+i) 0))
 |n+1,j,0,_=>by simp[HD]
 |n+1,j,i+1,h=>by
  have:=Z8p (k:=k) (l:=l) (n:=n) (j:=j+1) (i:=i) (by omega)
  rw[show j+1+i=j+(i+1) by omega]at this
  simpa[HD]using this
theorem ZK{k:IntKind}{l:List Int}:∀{n j:Nat},(HD k l j n).length=n
 |0,_=>rfl
 |n+1,j=>by simp[HD,ZK (n:=n)]
theorem Z8u{l:List Bool}:∀{n j i:Nat},i<n->(HE l j n)[i]?=some (.bool (l.getD (j+i) false))
 |n+1,j,0,_=>by simp[HE]
 |n+1,j,i+1,h=>by
  have:=Z8u (l:=l) (n:=n) (j:=j+1) (i:=i) (by omega)
  rw[show j+1+i=j+(i+1) by omega]at this
  simpa[HE]using this
theorem ZL{l:List Bool}:∀{n j:Nat},(HE l j n).length=n
 |0,_=>rfl
 |n+1,j=>by simp[HE,ZL (n:=n)]
theorem Z4x{e:List D}:∀{n off:Nat},(ints e off n).length=n
 |0,_=>rfl
 |n+1,off=>by simp[ints,Z4x (n:=n)]
theorem Qys{e:List D}:∀{n off:Nat},(bo e off n).length=n
 |0,_=>rfl
 |n+1,off=>by simp[bo,Qys (n:=n)]
theorem Wj{R:Rows}{r:Nat}{row ak:Row}(h:R.getD r none=some row)(s:Nat):(R.set r (some ak)).getD s none=if s=r then some ak else R.getD s none:=by
 have cf:r<R.length:=by
  by_cases hl:r<R.length
  ·exact hl
  ·rw[aK,aM (by omega)]at h;cases h
 by_cases e:s=r
 ·subst e
  simp[aK,cf]
 ·simp[aK,e,gH (Ne.symm e)]
theorem Znq{P:Program}{t:TypeId}{n:Nat}(kp:P.cellsOf t=n)(h0:0<n){R:Rows}{r i off:Nat}{box:Bool}{ty:TypeId}{sz:Nat}{es jb:ao}{d:D}
 (hR:R.getD r none=some ⟨box,ty,sz,es⟩) (hv:d.isVal=true) (hn:d.cells.length=n) (hle:off+n<=sz) (hp:box=false->d.cells.all D.plain=true)
 {c:Ctx} {w:World} {v:Value} (hm:Mem c w) (hA:∀r,c.R r=R.getD r none) (hV:¬c.V r) (hi:i<es.l.length) (ij:jb.l=es.l.set i (lh (es.l.getD i []) off d.cells)) (wS:box=true->jb=.gen [lh (es.get i) off d.cells]) (hd:Rep c w d v):
 sY P (Instr.storeAt t (.pointer (some ⟨c.ρ r,i*sz+off,none⟩)) v) w c (R.set r (some ⟨box,ty,sz,jb⟩)):=by
 have g1:c.R r=some ⟨box,ty,sz,es⟩:=by rw[hA];exact hR
 have hx:=Rep.cells hv hd
 obtain⟨jz,ho,hs,hb⟩:=hm.real g1 hV
 have hvn:v.cells.size=n:=by rw[<-hn,hx.length];simp
 simp only at ho hs hb
 have fin:∀ak:Row,ak=⟨box,ty,sz,jb⟩->i*sz+off+n<=jz.size->
  (∀c' w',jk c w c' w'->if ak.box then∃e,ak.es=.gen [e]/\e.length=ak.sz/\(pD jz.toList (i*sz+off) v.cells.toList).toArray.size=ak.sz/\kJ c' w' e (pD jz.toList (i*sz+off) v.cells.toList).toArray 0
   else iI c'.I w' ak.es.l (pD jz.toList (i*sz+off) v.cells.toList).toArray 0 ak.sz)->sY P (Instr.storeAt t (.pointer (some ⟨c.ρ r,i*sz+off,none⟩)) v) w c (R.set r (some ak)):=by
  intro ak cb fw fh
  have ig:=Zjd (P:=P) kp h0 (o:=i*sz+off) ho hvn fw hx.one
  have PL:(pD jz.toList (i*sz+off) v.cells.toList).toArray.size=jz.size:=by simp[UX]
  have hw:=hm.write (ak:=ak) g1 hV ho PL (by rw[cb]) (by rw[cb]) (by rw[cb]) (by rw[cb];simp only[ij,List.length_set])
  refine⟨r,ak,_,_,ig,rfl,⟨_,g1⟩,hV,hw.1,hw.2 ⟨by rw[cb];exact hs,fh _ _ hw.1⟩,λs=>?_⟩
  rw[Wj hR]
  simp only[Ctx.jA]
  split
  ·rfl
  ·exact hA s
 cases box with
 |true=>
  simp only[if_true]at hb
  obtain⟨e,k1,k2,k3,k4⟩:=hb
  rw[k1]at hi ij wS
  have rK:i=0:=by simpa[ao.l]using hi
  subst rK
  simp only[cM,aX]at fin⊢
  refine fin _ rfl (by omega) λc' w' hg=>?_
  simp only[if_true]
  refine⟨lh e off d.cells,wS rfl,by rw[P9];exact k2,by simp[UX,k3],Ni hg (Zh0 (by simpa using k4) (by omega) (by simp;omega) hx)⟩
 |false=>
  simp only[aN,if_false]at hb
  have kO:=Z5a hb hs hi
  refine fin _ rfl (by omega) λc' w' hg=>?_
  simp only[aN,if_false]
  rw[ij]
  exact od hg.I _ _ _ _ (Qzg (c:=c) (by simpa using hb) hi (by omega) hx (hp rfl) (by simpa using kO))
theorem qaP{k:IntKind}{e:List D}{off len n:Nat}{v:Int}(h:CO k e off len=true)(hl:off+len<=e.length)(hn:n<len):
 lh e off (HD k ((ints e off len).set n v) 0 len)=lh e (off+n) [.int k v]:=by
 apply gI
 intro j
 rw[HC (by rw[ZK];omega),HC (by simp;omega)]
 simp only[ZK,dI,dJ]
 by_cases h1:off<=j/\j<off+len
 ·rw[if_pos h1,Z8p (by omega)]
  by_cases h2:j=off+n
  ·subst h2
   rw[if_pos (by omega)]
   simp[aK,Z4x,show off+n-off=n by omega,hn]
  ·rw[if_neg (by omega)]
   have hg:=UD (e:=e) (off:=off) (show j-off<len by omega)
   have hi:=D.j9 (UF h (show j-off<len by omega))
   rw[show off+(j-off)=j by omega]at hg hi
   have hj:e[j]?=some e[j]:=cG (by omega)
   simp only[aK,hj,aG]at hg hi
   rw[hj]
   simp only[aK,aX]
   rw[gH (by omega)]
   rw[hg,<-hi]
 ·rw[if_neg h1,if_neg (by omega)]
theorem zaw{e:List D}{off len n:Nat}{v:Bool}(h:Hw e off len=true)(hl:off+len<=e.length)(hn:n<len):
 lh e off (HE ((bo e off len).set n v) 0 len)=lh e (off+n) [.bool v]:=by
 apply gI
 intro j
 rw[HC (by rw[ZL];omega),HC (by simp;omega)]
 simp only[ZL,dI,dJ]
 by_cases h1:off<=j/\j<off+len
 ·rw[if_pos h1,Z8u (by omega)]
  by_cases h2:j=off+n
  ·subst h2
   rw[if_pos (by omega)]
   simp[aK,Qys,show off+n-off=n by omega,hn]
  ·rw[if_neg (by omega)]
   have hg:=UE (e:=e) (off:=off) (show j-off<len by omega)
   have hi:=D.ka (UG h (show j-off<len by omega))
   rw[show off+(j-off)=j by omega]at hg hi
   have hj:e[j]?=some e[j]:=cG (by omega)
   simp only[aK,hj,aG]at hg hi
   rw[hj]
   simp only[aK,aX]
   rw[gH (by omega)]
   rw[hg,<-hi]
 ·rw[if_neg h1,if_neg (by omega)]
theorem Zpv{P:Program}{T:fq}(hT:jy P T){t:TypeId}{x d:D}{R:Rows}{K:D->Rows->Prop}(h:HF T t x d R K):
    ∃R',K .dead R'/\ ∀c w a v,Mem c w->(∀r,c.R r=R.getD r none)->Rep c w x a->Rep c w d v->sY P (Instr.storeAt t a v) w c R':=by
  unfold HF at h
  cases ht:T.get t with
  |none=>simp only[ht]at h
  | some ti =>
    simp only[ht]at h
    obtain⟨i0,rK,EI,_,Bi,Aj,_⟩:=DE (hT.get ht)
    have kp:P.cellsOf t=ti.size:=by simp [Program.cellsOf,rK,EI]
    cases x<;>simp only at h
    case ptr r i off=>
      cases hR:R.getD r none with
      |none=>simp only[hR]at h
      | some row=>
        obtain⟨box,ty,sz,es⟩:=row
        simp only[hR,da,aE]at h
        obtain⟨⟨⟨⟨h0,hv⟩,hn⟩,hle⟩,h⟩:=h
        have h0:0<ti.size:=lE h0
        have hn:=bE hn
        have hle:=lE hle
        have go: ∀jb:ao,(box=false->d.cells.all D.plain=true)-> ∀c w a v,Mem c w->(∀r,c.R r=R.getD r none)->Rep c w (.ptr r i off) a->Rep c w d v->
            (∃row:Row,c.R r=some row/\row=⟨box,ty,sz,es⟩/\ ¬c.V r/\i<es.l.length)/\(jb.l=es.l.set i (lh (es.l.getD i []) off d.cells)->(box=true->jb= .gen [lh (es.get i) off d.cells])->sY P (Instr.storeAt t a v) w c (R.set r (some ⟨box,ty,sz,jb⟩))):=by
          intro jb hp c w a v hm hA ha hd
          obtain⟨row,g1,gV,g2,ha⟩:=ha
          have cb:row=⟨box,ty,sz,es⟩:=by rw[hA,hR]at g1;exact(Option.some.inj g1).symm
          subst cb
          subst ha
          exact⟨⟨_,g1,rfl,gV,g2⟩,λhe wS=>Znq kp h0 hR hv hn hle hp hm hA gV g2 he wS hd⟩
        cases box with
        | true=>
          simp only[D.fj,nk]at h
          refine⟨_,h,λc w a v hm hA ha hd=> ?_⟩
          obtain⟨⟨row,g1,cb,gV,g2⟩,hw⟩:=go (.gen [lh (es.get i) off d.cells]) (by simp) c w a v hm hA ha hd
          subst cb
          obtain⟨jz,ho,hs,hb⟩:=hm.real g1 gV
          simp only[if_true]at hb
          obtain⟨e,k1,k2,k3,k4⟩:=hb
          have iV:=ao.nm es (show i<es.len by simpa using g2)
          refine hw ?_ (λ_=>rfl)
          rw[<-iV,k1]
          rw[k1]at g2
          have rK:i=0:=by simpa [ao.l] using g2
          subst rK
          rfl
        | false=>
          simp only[nk]at h
          refine⟨_,h.2,λc w a v hm hA ha hd=> ?_⟩
          obtain⟨⟨row,g1,cb,gV,g2⟩,hw⟩:=go _ (λ_=>h.1) c w a v hm hA ha hd
          exact hw (by rw[ao.QE,ao.nm es (show i<es.len by simpa using g2)]) (by simp)
    case pa r i off len k n=>
      cases hR:R.getD r none with
      |none=>simp only[hR]at h
      | some row=>
        obtain⟨box,ty,sz,es⟩:=row
        simp only[hR,da,aE]at h
        obtain⟨⟨pk,hle⟩,h⟩:=h
        subst pk
        have hle:=lE hle
        have go: ∀(x:D) (xs:List D),x.isVal=true->x.cells=[x]->ti.size=1->(n<len->off+len<=(es.get i).length->lh (es.get i) off xs=lh (es.get i) (off+n) [x])-> ∀c w a v,Mem c w->(∀r,c.R r=R.getD r none)->Rep c w (.pa r i off len k n) a->Rep c w x v->
            sY P (Instr.storeAt t a v) w c (R.set r (some ⟨true,ty,sz, .gen [lh (es.get i) off xs]⟩)):=by
          intro x xs hv hc fw heq c w a v hm hA ha hd
          obtain⟨hn,row,g1,gV,g2,ha⟩:=ha
          have cb:row=⟨true,ty,sz,es⟩:=by rw[hA,hR]at g1;exact(Option.some.inj g1).symm
          subst cb
          subst ha
          obtain⟨jz,ho,hs,hb⟩:=hm.real g1 gV
          simp only[if_true]at hb
          obtain⟨e,k1,k2,k3,k4⟩:=hb
          simp only at g2
          have iV:=ao.nm es (show i<es.len by simpa using g2)
          have hlen:(es.get i).length=sz:=by
            rw[<-iV,k1]
            rw[k1]at g2
            have rK:i=0:=by simpa [ao.l] using g2
            subst rK
            exact k2
          refine Znq (off:=off+n) kp (by omega) hR hv (by rw[hc,fw];rfl) (by omega) (by simp) hm hA gV g2 ?_ (λ_=>by rw[hc,heq hn (by omega)]) hd
          rw[iV,hc,heq hn (by omega)]
          rw[k1]at g2⊢
          have rK:i=0:=by simpa [ao.l] using g2
          subst rK
          rfl
        split at h
        . rename_i j k' k'' v hk
          simp only[decide_eq_true_eq,D.fj,nk]at h
          obtain⟨⟨⟨rfl,rfl⟩,iP⟩,h⟩:=h
          refine⟨_,h,λc w a u hm hA ha hd=>go (.int _ v) _ rfl rfl (UH (hT.get ht) (by rw[hk];simp [TK.isAgg])) (λhn hl=>qaP iP hl hn) c w a u hm hA ha hd⟩
        . rename_i v hk
          simp only[D.fj,nk]at h
          obtain⟨iP,h⟩:=h
          refine⟨_,h,λc w a u hm hA ha hd=>go (.bool v) _ rfl rfl (UH (hT.get ht) (by rw[hk];simp [TK.isAgg])) (λhn hl=>zaw iP hl hn) c w a u hm hA ha hd⟩
        . exact h.elim
def sv:D->Value
 |.int k n=>.int k n
 |.bool b=>.bool b
 |.str s=>.string ⟨s.toArray⟩
 |_=>undef
def pV(xs:Array Value)(o:Nat)(az:List D):Prop:=∀j d,az[j]?=some d->xs[o+j]?=some (sv d)
theorem QF:∀{t u:List rb} {l:List D},fits (t++u) l=true->∃a b,l=a++b/\fits t a=true/\fits u b=true/\a.length=t.length
 |[],u,l,h=>⟨[],l,rfl,rfl,h,rfl⟩
 |c::t,u,[],h=>by cases c<;>simp[fits]at h
 |c ::t,u,d::l,h=>by
  cases c<;>simp only[cD,fits,aE,aN]at h
  all_goals
   obtain⟨a,b,h1,h2,h3,h4⟩:=QF h.2
   exact⟨d::a,b,by rw[h1];rfl,by simp[fits,h.1,h2],h3,by simp[h4]⟩
theorem sT:∀{t:List rb} {l:List D},fits t l=true->l.length=t.length
 |[],[],_=>rfl
 |[],_::_,h=>by simp[fits]at h
 |c::t,[],h=>by cases c<;>simp[fits]at h
 |c::t,d::l,h=>by
  cases c<;>simp only[fits,aE,aN]at h
  all_goals simp[sT h.2]
theorem ZM:∀{a b a' b':List D},a.length=b.length->eqs (a++a') (b++b')=(eqs a b&&eqs a' b')
 |[],[],_,_,_=>by simp[eqs]
 |x::a,y::b,a',b',h=>by
  simp only[cD,eqs]
  rw[ZM (by simpa using h),Bool.and_assoc]
theorem Hy{P:Program}{t:TypeId}{d:TypeDesc}(hd:P.underlying t=some d)(ha:PW d=false){xs:Array Value}{o:Nat}{v:Value}(hv:xs[o]?=some v)(w:World):(part t xs o).run P w=.ok v w:=by
 unfold part
 rw[Sem.run_bind,Zw hd,Mr hd,ha,Result.andThen_ok]
 simp[hv]
theorem UM{P:Program}{t:TypeId}{d:TypeDesc}(hd:P.underlying t=some d)(ha:PW d=true)(h0:0<P.cellsOf t)(xs:Array Value)(o:Nat)(w:World):
 (part t xs o).run P w=.ok (.agg (xs.extract o (o+P.cellsOf t))) w:=by
 unfold part
 rw[Sem.run_bind,Zw hd,Mr hd,ha,Result.andThen_ok]
 simp only[if_true,Sem.run_bind,Bu h0,Result.andThen_ok,Sem.run_pure]
theorem pV.extract{xs:Array Value}{o:Nat}{az:List D}{n:Nat}(h:pV xs o az)(hn:az.length<=n):pV (xs.extract o (o+n)) 0 az:=by
 intro j d hj
 have cf:=(List.getElem?_eq_some_iff.1 hj).1
 have:=h j d hj
 have hx:=(Array.getElem?_eq_some_iff.1 this).1
 simp only[aX,Array.getElem?_extract]
 rw[if_pos (by omega)]
 exact this
theorem pV.left{xs:Array Value}{o:Nat}{a b:List D}(h:pV xs o (a++b)):pV xs o a:=λj d hj=>h j d (by rw[aZ (List.getElem?_eq_some_iff.1 hj).1];exact hj)
theorem pV.right{xs:Array Value}{o:Nat}{a b:List D}(h:pV xs o (a++b)):pV xs (o+a.length) b:=λj d hj=>by
 rw[fY];exact h (a.length+j) d (by rw[bB (by omega)];simpa using hj)
def oC(t:TypeId)(m:Nat)(xs ys:Array Value)(o:Nat):Sem Bool:=do
 let a<-part t xs o
 let b<-part t ys o
 Op.equalIn m t a b
theorem Z9y{P:Program}{n m:Nat}(ih:∀t,rB P n t=true->P.cellsOf t=(lZ P n t).length->0<P.cellsOf t->∀(xs ys:Array Value) (o:Nat) (az bs:List D) (w:World),fits (lZ P n t) az=true->fits (lZ P n t) bs=true->pV xs o az->pV ys o bs->
 (oC t m xs ys o).run P w=.ok (eqs az bs) w):
 ∀ (fs:List Field) (o:Nat) (az bs:List D) (xs ys:Array Value) (w:World),Uy P (rB P n) (λu=>(lZ P n u).length) fs o=true->fits (fs.flatMap λf=>lZ P n f.type) az=true->fits (fs.flatMap λf=>lZ P n f.type) bs=true->
  pV xs o az->pV ys o bs->(Op.eqFields m xs ys fs).run P w=.ok (eqs az bs) w
 |[],o,az,bs,xs,ys,w,_,ha,hb,_,_=>by
  have h1:=sT ha
  have h2:=sT hb
  simp at h1 h2
  subst h1;subst h2
  simp[Op.eqFields,eqs]
 |f ::fs,o,az,bs,xs,ys,w,ho,ha,hb,sa,sb=>by
  simp only[Uy,aE]at ho
  obtain⟨⟨⟨⟨⟨h1,h2⟩,h3⟩,h4⟩,h5⟩,h6⟩:=ho
  have h2:=bE h2
  have h3:=bE h3
  have h4:0<(lZ P n f.type).length:=lE h4
  simp only[List.flatMap_cons]at ha hb
  obtain⟨a1,a2,rfl,ZN,ZO,la⟩:=QF ha
  obtain⟨b1,b2,rfl,ZP,ZQ,lb⟩:=QF hb
  have iW:=ih f.type h5 h3 (by omega) xs ys o a1 b1 w ZN ZP sa.left sb.left
  have wZ:=Z9y ih fs (o+(lZ P n f.type).length) a2 b2 xs ys w h6 ZO ZQ (by rw[<-la];exact sa.right) (by rw[<-lb];exact sb.right)
  have gr:f.name≠ "_" :=by simpa using h1
  simp only[Op.eqFields,gr,ne_eq,not_false_eq_true,if_true,h2]
  unfold oC at iW
  rw[ZM (by omega)]
  rw[Sem.run_bind]at iW⊢
  cases hp:(part f.type xs o).run P w with
  |halt x w1=>rw[hp]at iW;simp at iW
  |ok a w1=>
   rw[hp]at iW
   simp only[Result.andThen_ok,Sem.run_bind]at iW⊢
   cases hq:(part f.type ys o).run P w1 with
   |halt x w2=>rw[hq]at iW;simp at iW
   |ok b w2=>
    rw[hq]at iW
    simp only[Result.andThen_ok]at iW⊢
    rw[iW]
    simp only[Result.andThen_ok]
    cases he:eqs a1 b1 with
    |true=>simpa[he]using wZ
    |false=>simp
theorem Zfg{P:Program}{n m:Nat}{e:TypeId}{k:Nat}(hk:P.cellsOf e=k)(hl:(lZ P n e).length=k)(ih:∀(xs ys:Array Value) (o:Nat) (az bs:List D) (w:World),fits (lZ P n e) az=true->fits (lZ P n e) bs=true->pV xs o az->pV ys o bs->
 (oC e m xs ys o).run P w=.ok (eqs az bs) w):
 ∀ (len i:Nat) (az bs:List D) (xs ys:Array Value) (w:World),fits (cQ len (lZ P n e)).flatten az=true->fits (cQ len (lZ P n e)).flatten bs=true->pV xs (i*k) az->pV ys (i*k) bs->
  (do
   let r<-forIn (List.range' i len) ((none,()):Option Bool×Unit) λj _=>do
    let a<-part e xs (j*k)
    let b<-part e ys (j*k)
    let q<-Op.equalIn m e a b
    if(!q)=true then pure (ForInStep.done (some false,()))else pure (ForInStep.yield (none,()))
   match r.1 with
   |some a=>pure a
   |none=>pure true:Sem Bool).run P w=.ok (eqs az bs) w
 |0,i,az,bs,xs,ys,w,ha,hb,_,_=>by
  have h1:=sT ha
  have h2:=sT hb
  simp at h1 h2
  subst h1;subst h2
  simp[eqs]
 |len + 1,i,az,bs,xs,ys,w,ha,hb,sa,sb=>by
  simp only[List.replicate_succ,List.flatten_cons]at ha hb
  obtain⟨a1,a2,rfl,ZN,ZO,la⟩:=QF ha
  obtain⟨b1,b2,rfl,ZP,ZQ,lb⟩:=QF hb
  have iW:=ih xs ys (i*k) a1 b1 w ZN ZP sa.left sb.left
  have wZ:=Zfg hk hl ih len (i+1) a2 b2 xs ys w ZO ZQ (by rw[aW];have:=sa.right;rwa [la,hl]at this) (by rw[aW];have:=sb.right;rwa [lb,hl]at this)
  unfold oC at iW
  rw[ZM (by omega)]
  simp only[List.range'_succ,List.forIn_cons,Sem.run_bind]at iW⊢
  cases hp:(part e xs (i*k)).run P w with
  |halt x w1=>rw[hp]at iW;simp at iW
  |ok a w1=>
   rw[hp]at iW
   simp only[Result.andThen_ok]at iW⊢
   cases hq:(part e ys (i*k)).run P w1 with
   |halt x w2=>rw[hq]at iW;simp at iW
   |ok b w2=>
    rw[hq]at iW
    simp only[Result.andThen_ok]at iW⊢
    rw[iW]
    simp only[Result.andThen_ok]
    cases he:eqs a1 b1 with
    |true=>
     simp only[Sem.run_bind]at wZ
     simpa[he]using wZ
    |false=>simp
theorem ZB{P:Program}:∀(n:Nat) (t:TypeId) (m:Nat),n<=m->rB P n t=true->P.cellsOf t=(lZ P n t).length->0<P.cellsOf t->∀(xs ys:Array Value) (o:Nat) (az bs:List D) (w:World),
 fits (lZ P n t) az=true->fits (lZ P n t) bs=true->pV xs o az->pV ys o bs->(oC t m xs ys o).run P w=.ok (eqs az bs) w
 |0,t,m,_,h,_,_,_,_,_,_,_,_,_,_,_,_=>by simp[rB]at h
 |n+1,t,0,hm,_,_,_,_,_,_,_,_,_,_,_,_,_=>by omega
 |n + 1,t,m+1,hm,h,hc,h0,xs,ys,o,az,bs,w,ha,hb,sa,sb=>by
  unfold rB at h
  split at h
  ·rename_i k hd
   simp only[lZ,hd]at ha hb
   have h1:=sT ha;have h2:=sT hb
   obtain⟨x,rfl⟩:=List.length_eq_one_iff.1 h1
   obtain⟨y,rfl⟩:=List.length_eq_one_iff.1 h2
   simp only[fits,gJ]at ha hb
   have hx:=sa 0 x rfl;have hy:=sb 0 y rfl
   rw[D.j9 ha]at hx⊢
   rw[D.j9 hb]at hy⊢
   simp only[sv,bG]at hx hy
   simp only[oC,Sem.run_bind,Hy hd rfl hx,Hy hd rfl hy,Result.andThen_ok,run_equalIn_int w m t k k _ _ hd,eqs,UY,gJ]
  ·rename_i hd
   simp only[lZ,hd]at ha hb
   have h1:=sT ha;have h2:=sT hb
   obtain⟨x,rfl⟩:=List.length_eq_one_iff.1 h1
   obtain⟨y,rfl⟩:=List.length_eq_one_iff.1 h2
   simp only[fits,gJ]at ha hb
   have hx:=sa 0 x rfl;have hy:=sb 0 y rfl
   rw[D.ka ha]at hx⊢
   rw[D.ka hb]at hy⊢
   simp only[sv,bG]at hx hy
   simp only[oC,Sem.run_bind,Hy hd rfl hx,Hy hd rfl hy,Result.andThen_ok,run_equalIn_bool' w m t _ _ hd,eqs,UY,gJ]
  ·rename_i hd
   simp only[lZ,hd]at ha hb
   have h1:=sT ha;have h2:=sT hb
   obtain⟨x,rfl⟩:=List.length_eq_one_iff.1 h1
   obtain⟨y,rfl⟩:=List.length_eq_one_iff.1 h2
   simp only[fits,gJ]at ha hb
   have hx:=sa 0 x rfl;have hy:=sb 0 y rfl
   cases x<;>simp[D.isStr]at ha
   cases y<;>simp[D.isStr]at hb
   rename_i s u
   simp only[sv,bG]at hx hy
   simp only[oC,Sem.run_bind,Hy hd rfl hx,Hy hd rfl hy,Result.andThen_ok,run_equalIn_string w m t _ _ hd,eqs,UY,gJ,ByteArray.toList_mk]
   congr 1
   rw[eI];simp
  ·rename_i fs hd
   simp only[aE,Bool.not_eq_true']at h
   have hf:P.fieldsOf t=fs:=by simp[Program.fieldsOf,hd]
   have hl:=sT ha
   have tu:=sT hb
   simp only[lZ,hd]at ha hb
   simp only[oC,Sem.run_bind,UM hd rfl h0,Result.andThen_ok]
   rw[run_equalIn_struct w m t _ _ (by rw[hf];exact hd) h.1,hf]
   refine Z9y (n:=n) (λu hu hcu h0u xs ys o az bs w=>ZB n u m (by omega) hu hcu h0u xs ys o az bs w) fs.toList 0 az bs _ _ w h.2 ha hb (sa.extract (by omega)) (sb.extract (by omega))
  ·rename_i len e hd
   simp only[aE]at h
   obtain⟨⟨h1,h2⟩,h3⟩:=h
   have h1:=bE h1
   have h2:0<P.cellsOf e:=lE h2
   have hl:=sT ha
   have tu:=sT hb
   simp only[lZ,hd]at ha hb
   simp only[oC,Sem.run_bind,UM hd rfl h0,Result.andThen_ok]
   have:=Zfg (P:=P) (n:=n) (m:=m) (e:=e) rfl h1.symm (λxs ys o az bs w=>ZB n e m (by omega) h3 h1 h2 xs ys o az bs w) len 0 az bs (xs.extract o (o+P.cellsOf t)) (ys.extract o (o+P.cellsOf t)) w ha hb
    (by rw[cM];exact sa.extract (by omega)) (by rw[cM];exact sb.extract (by omega))
   rw[<-this]
   simp only[Op.equalIn,Sem.run_bind,run_underlying hd,Result.andThen_ok,Bu h2,Std.Legacy.Range.forIn_eq_forIn_range',Std.Legacy.Range.size,gC,Nat.add_sub_cancel,Nat.div_one]
   congr 1
   funext r w'
   obtain⟨f,u⟩:=r
   cases f<;>rfl
  ·cases h
theorem PN:∀{vs:List Value} {ds:List D},Bt vs=some ds->ds.length=vs.length
 |[],ds,h=>by simp[Bt]at h;subst h;rfl
 |v ::vs,ds,h=>by
  simp only[Bt]at h
  split at h
  ·rename_i d l h1 h2
   simp at h;subst h
   simp[PN h2]
  ·cases h
theorem Z90{I:ag}{w:World}{z:List D}{zs:Array Value}{sz n m:Nat}(hz:z.length=sz)(hs:zs.size=sz)(hr:∀j v,zs[j]?=some v->fx I w (z.getD j .dead) v)(hm:n<=m):
 iI I w (cQ n z) (madeCells zs (m*sz)) 0 sz:=by
 rw[wa]
 intro i hi
 have iy:i<n:=by simpa using hi
 have he:(cQ n z).getD i []=z:=by simp[aK,iy]
 rw[he]
 refine⟨hz,?_⟩
 rw[tR]
 intro j hj
 have cf:i*sz+j<m*sz:=by
  have:=aV sz (show i+1<=m by omega)
  rw[aW]at this
  omega
 have ZR:(i*sz+j)%sz=j:=by rw[Nat.add_comm,Nat.add_mul_mod_self_right,Nat.mod_eq_of_lt (by omega)]
 have hj':j<zs.size:=by omega
 refine⟨zs[j],?_,hr j _ (Array.getElem?_eq_getElem hj')⟩
 have hrg:(gK (m*sz))[i*sz+j]?=some (i*sz+j):=by rw[Array.getElem?_range,if_pos cf]
 simp only[madeCells,aX,Array.getElem?_map,hrg,Option.map_some,hs,ZR]
 simp[hj']
theorem Z8i{z:List D}{u:Value}(h:Bt u.cells.toList=some z)(hp:z.all D.plain=true)(c:Ctx)(w:World):∀j v,u.cells[j]?=some v->fx c.I w (z.getD j .dead) v:=by
 intro j v hv
 have hr:=JJ h c w
 have hl:=hr.length
 have h1:u.cells.toList[j]?=some v:=by simpa using hv
 have cf:j<z.length:=by rw[hl];exact(List.getElem?_eq_some_iff.1 h1).1
 refine cu.plain ?_ ((En.1 hr).2 j v h1)
 have hm:z.getD j .dead∈z:=by
  simp only[aK,cG cf,aG]
  exact fI _
 exact List.all_eq_true.1 hp _ hm
theorem YT{c:Ctx}{w:World}{k:Nat}{e:TypeId}{sz cap:Nat}{es:ao}{arr:Array Value}(h1:es.l.length<=cap)(h2:cap<=maxLen)(h3:cap*sz=arr.size):
 Rep (c.add k ⟨false,e,sz,es⟩ w.heap.size) (w.alloc (.cells arr e)) (.all k) (.slice (some ⟨w.heap.size,0,none⟩) es.l.length cap):=by
 refine⟨_,(Ctx.iZ _ _ _ _).1,rfl,.inr ⟨by simp[Ctx.add],cap,arr,?_,h1,h2,?_,h3⟩⟩
 ·rw[(Ctx.iZ _ _ _ _).2]
 ·rw[(Ctx.iZ _ _ _ _).2];exact UC w _
theorem yv{P:Program}{T:fq}(hT:jy P T){t:TypeId}{kl kc:IntKind}{n m:Int}{R:Rows}{K:D->Rows->Prop}(h:uK T t n m R K):
 ∃row val,K val (R++[some row])/\∀c w,UL P (Instr.makeSlice t (.int kl n) (.int kc m)) w c R.length row val:=by
 unfold uK at h
 split at h
 ·rename_i e _ _ _ _ _ _ ht
  have hk:=mU hT ht
  simp only at hk
  split at h
  ·rename_i kk sz lO cs z q he
   simp only[da,aE,decide_eq_true_eq,Nj]at h
   obtain⟨⟨⟨⟨h0,hz⟩,hp⟩,g0,g1,g2,g3⟩,h⟩:=h
   have h0:0<sz:=lE h0
   have hz:=bE hz
   obtain⟨i,u,hi,hu,Jy,hs,hb,hc,hzero⟩:=Jz hT he
   refine⟨_,_,h,λc w=>?_⟩
   have hr:=run_make (P:=P) w t e i u hk.1 hi hu kl kc n m g0 g1 (by rw[hb];omega) g2
   rw[hs]at hr
   have wQ:u.cells.size=sz:=by have:=PN Jy;simp at this;omega
   refine⟨_,_,hr,⟨h0,?_⟩,λ_ _=>?_⟩
   ·simp only[aN,if_false,ao.uL]
    exact Z90 (n:=n.toNat) (m:=m.toNat) hz wQ (Z8i Jy hp c w) (by omega)
   ·have:=YT (c:=c) (w:=w) (k:=R.length) (e:=e) (sz:=sz) (cap:=m.toNat) (es:=ao.FW e n.toNat z) (arr:=madeCells u.cells (m.toNat*sz)) (by rw[ao.uL];simp;omega) (by unfold maxLen;omega) (by simp[madeCells])
    rw[ao.uL]at this
    simpa using this
  ·exact h.elim
 ·exact h.elim
theorem qw{c:Ctx}{w:World}{d:D}{v:Value}(h:cu c w d v):cu c w d.QG v:=by
 cases d with
 |sl sz es fr=>
  obtain⟨a,cap,hv,hc,h⟩:=h
  refine⟨a,cap,hv,hc,?_⟩
  rcases h with h|⟨b,off,arr,ty,fz,h1,h2,h3,h4⟩
  ·exact .inl h
  ·exact .inr ⟨b,off,arr,ty,fz,h1,h2,(λe=>by cases e),h4⟩
 |_=>exact h
theorem Z9f{c:Ctx}{w:World}:∀{ds:List D} {vs:List Value},jm c w ds vs->jm c w (HG ds) vs
 |[],[],_=>trivial
 |d::ds,v::vs,h=>⟨qw h.1,Z9f h.2⟩
 |[],_::_,h=>h.elim
 |_::_,[],h=>h.elim
theorem Zic{n len:Nat}(h0:0<n){ev:Operand->D}:∀{parts:List (Nat×Operand)} {es:List (List D)} {K:List (List D)->Prop},es.length=len->HH n len ev parts es K->
 ∃ jb,K jb/\jb.length=len/\∀c w (ρ:Operand->Value) (cells:Array Value),cells.size=len*n->iI c.I w es cells 0 n->(∀p∈parts,Rep c w (ev p.2) (ρ p.2))->
  ∃fe,Instr.fill (λi=>some (i*n,n)) cells (parts.map λp=>(p.1,ρ p.2))=some fe/\fe.size=len*n/\iI c.I w jb fe 0 n
 |[],es,K,hl,h=>⟨es,h,hl,λc w ρ cells hs he _=>⟨cells,rfl,hs,he⟩⟩
 |(i,x)::ps,es,K,hl,h=>by
  unfold HH at h
  simp only[da,aE]at h
  obtain⟨⟨⟨⟨hv,hp⟩,hn⟩,hi⟩,h⟩:=h
  have hn:=bE hn
  have hi:i<len:=lE hi
  obtain⟨jb,hK,tu,hr⟩:=Zic h0 (by simpa using hl) h
  refine⟨jb,hK,tu,λc w ρ cells hs he mb=>?_⟩
  have hx:=Z9f (Rep.cells hv (mb (i,x) (by simp)))
  have hlen:(ρ x).cells.size=n:=by rw[<-hn,hx.length];simp
  have kO:i*n+n<=cells.size:=by
   have:=aV n (show i+1<=len by omega)
   rw[aW]at this
   omega
  have hw:=Qzg (c:=c) (w:=w) (es:=es) (arr:=cells.toList) (off:=0) (i:=i) (by simpa using he) (by omega) (by omega) hx hp (by simpa using kO)
  have QH:lh (es.getD i []) 0 (HG (ev x).cells)=HG (ev x).cells:=by
   have Kx:=(wa.1 he i (by omega)).1
   apply gI
   intro k
   rw[HC (by omega)]
   by_cases hk:k<(HG (ev x).cells).length
   ·rw[if_pos (by omega)];simp
   ·rw[if_neg (by omega),aM (by omega),aM (by omega)]
  rw[QH]at hw
  have kp:(pD cells.toList (i*n+0) (ρ x).cells.toList).toArray=(ρ x).cells.zipIdx.foldl (λcs (x:Value×Nat)=>cs.setIfInBounds (i*n+x.2) x.1) cells:=by
   rw[bG,<-Zgb (ρ x) (i*n) cells]
  rw[kp]at hw
  obtain⟨fe,k1,k2,k3⟩:=hr c w ρ _ (by rw[<-kp];simp[UX,hs]) hw (λp hp=>mb p (by simp[hp]))
  refine⟨fe,?_,k2,k3⟩
  simp only[fR,Instr.fill]
  rw[if_neg (by simp;omega)]
  exact k1
theorem Za{n len:Nat}{ev:Operand->D}:∀{parts:List (Nat×Operand)} {es:List (List D)} {K:List (List D)->Prop},HH n len ev parts es K->
 ∃jb,K jb/\∀(ik:Operand->D) (K2:List (List D)->Prop),(∀p∈parts,ik p.2=ev p.2)->K2 jb->HH n len ik parts es K2
 |[],es,K,h=>⟨es,h,λik K2 _ h2=>h2⟩
 |(i,x)::ps,es,K,h=>by
  unfold HH at h
  simp only[da]at h
  obtain⟨jb,h1,h2⟩:=Za h.2
  refine⟨jb,h1,λik K2 he hk=>?_⟩
  unfold HH
  rw[he (i,x) (by simp)]
  simp only[da]
  exact⟨h.1,h2 ik K2 (λp hp=>he p (by simp[hp])) hk⟩
theorem Zl4{T:fq}{t:TypeId}{len:Nat}{parts:List (Nat×Operand)}{ev:Operand->D}{R:Rows}{K:D->Rows->Prop}(h:MA T t len parts ev R K):
 ∃val,K val R/\∀(ik:Operand->D) (R2:Rows),(∀p∈parts,ik p.2=ev p.2)->MA T t len parts ik R2 λd R'=>d=val/\R'=R2:=by
 unfold MA at h⊢
 split at h
 ·split at h
  ·simp only[da]at h⊢
   obtain⟨h0,h⟩:=h
   obtain⟨jb,hK,hd⟩:=Za h
   cases len with
   |zero=>exact⟨_,hK,λik R2 ep=>⟨h0,hd ik _ ep (by simp)⟩⟩
   |succ m=>exact⟨_,hK,λik R2 ep=>⟨h0,hd ik _ ep (by simp)⟩⟩
  ·exact h.elim
 ·exact h.elim
theorem Zo8{P:Program}{T:fq}(hT:jy P T){t:TypeId}{len:Nat}{parts:List (Nat×Operand)}{ev:Operand->D}{R:Rows}{K:D->Rows->Prop}(h:MA T t len parts ev R K):
    ∃val,K val R/\ ∀c w (ρ:Operand->Value),c.base<=w.heap.size->(∀p∈parts,Rep c w (ev p.2) (ρ p.2))-> ∃u arr ty,(Instr.buildSlice t len (parts.map λp=>(p.1,ρ p.2)).toArray).run P w= .ok u (w.alloc (.cells arr ty))/\(Mem c w->Rep (c.fu w.heap.size) (w.alloc (.cells arr ty)) val u):=by
  unfold MA at h
  split at h
  . rename_i e _ _ _ _ _ _ ht
    have hk:=mU hT ht
    simp only at hk
    split at h
    . rename_i kk sz lO cs z q he
      simp only[da,aE]at h
      obtain⟨⟨⟨⟨h0,hz⟩,hle⟩,hp⟩,h⟩:=h
      have h0:0<sz:=lE h0
      have hz:=bE hz
      have hle:=lE hle
      obtain⟨i,u,hi,hu,Jy,hs,hb,hc,hzero⟩:=Jz hT he
      obtain⟨jb,hK,tu,hr⟩:=Zic h0 (by simp) h
      have wQ:u.cells.size=sz:=by have:=PN Jy;simp at this;omega
      have main: ∀c w (ρ:Operand->Value),(∀p∈parts,Rep c w (ev p.2) (ρ p.2))-> ∃fe,(Instr.buildSlice t len (parts.map λp=>(p.1,ρ p.2)).toArray).run P w= .ok (.slice (some ⟨w.heap.size,0,none⟩) len len) (w.alloc (.cells fe e))/\iI c.I w jb fe 0 sz:=by
        intro c w ρ mb
        have Kx:=Z90 (I:=c.I) (w:=w) hz wQ (Z8i Jy hp c w) (aO len)
        obtain⟨fe,k1,k2,k3⟩:=hr c w ρ (madeCells u.cells (len*sz)) (by simp [madeCells]) Kx mb
        refine⟨fe,?_,k3⟩
        have ZS: ¬len*sz>2^24:=by omega
        have ER:0<P.cellsOf e:=by omega
        unfold Instr.buildSlice
        simp only[Sem.run_bind,run_underlying hk.1,Result.andThen_ok,Bu ER,hc,Sem.run_ite,ZS,if_false,Sem.run_pure]
        by_cases Mi:len*sz=0
        . have oa:Instr.fill (λi=>some (i*sz,sz)) ((gK (len*sz)).map λx=>(#[]:Array Value)[x%(#[]:Array Value).size]!) (parts.map λp=>(p.1,ρ p.2))=some fe:=by
            rw[<-k1];congr 1
            rw[Mi];simp [madeCells]
          simp only[Mi,if_true]at oa⊢
          rw[oa]
          simp only[newRow,Sem.run_bind,run_newObj,Result.andThen_ok,Sem.run_pure]
          rfl
        . simp only[Mi,if_false,hzero,Result.andThen_ok]
          rw[show Instr.fill (λi=>some (i*sz,sz)) ((gK (len*sz)).map λx=>u.cells[x%u.cells.size]!) (parts.map λp=>(p.1,ρ p.2))=some fe from k1]
          simp only[newRow,Sem.run_bind,run_newObj,Result.andThen_ok,Sem.run_pure]
          rfl
      cases len with
      | zero=>
        refine⟨_,hK,λc w ρ _ mb=> ?_⟩
        obtain⟨fe,h1,_⟩:=main c w ρ mb
        exact⟨_,fe,e,h1,λ_=>⟨_,rfl,λx hx=>by cases hx;exact Nat.lt_of_lt_of_le (Nat.lt_succ_self _) (Nat.le_max_right _ _)⟩⟩
      | succ m=>
        refine⟨_,hK,λc w ρ jj mb=> ?_⟩
        obtain⟨fe,h1,h2⟩:=main c w ρ mb
        refine⟨_,fe,e,h1,λhm=> ?_⟩
        refine⟨some ⟨w.heap.size,0,none⟩,m+1,by rw[ao.CX,tu],by rw[ao.CX,tu];exact aO _, .inr ⟨w.heap.size,0,fe,e,(0,0),rfl, .inr rfl,λ_=>jj,UC w _,?_⟩⟩
        rw[ao.CX]
        exact od (UJ hm _).I _ _ _ _ h2
    . exact h.elim
  . exact h.elim

