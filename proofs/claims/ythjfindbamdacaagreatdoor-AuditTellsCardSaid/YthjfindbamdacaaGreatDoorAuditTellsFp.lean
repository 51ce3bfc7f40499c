import Derived.Test.YthjfindbamdacaaGreatDoorAuditTellsFm
import Derived.Lib.Strings
open Bool renaming eq_iff_iff->eH,false_eq_true->aN,and_true->gK
open Option renaming map_eq_some_iff->fR,getD_some->aG
open Nat renaming add_assoc->fZ,succ_mul->aW,le_refl->aO,sub_zero->gD,sub_self->gE,zero_add->aX,mul_le_mul_right->aV,add_zero->bG,zero_mul->cM
open List renaming length_nil->dI,map_cons->fS,length_cons->dH,getElem?_cons_zero->gG,getElem?_set_self->gH,getElem?_set_ne->gI,getD->aK,getElem?_toArray->aY,getElem?_eq_getElem->cG,getElem_mem->fJ,ext_getElem?->gJ,append_assoc->fF,getElem?_append_right->bB,getElem?_append_left->aZ,getElem?_eq_none->aM,cons_append->cD,replicate->cP
open Array renaming toArray_toList->bS,range->gL
set_option linter.all false
namespace Go.GD
open Go
theorem Zid(a b:List UInt8):(ByteArray.mk a.toArray)++(ByteArray.mk b.toArray)=ByteArray.mk (a++b).toArray:=by
 rw[ByteArray.ext_iff]
 simp
theorem Rep.int{c:Ctx}{w:World}{k:IntKind}{n:Int}{v:Value}:Rep c w (.int k n) v↔v=.int k n:=Iff.rfl
theorem Rep.bool{c:Ctx}{w:World}{b:Bool}{v:Value}:Rep c w (.bool b) v↔v=.bool b:=Iff.rfl
theorem Rep.str{c:Ctx}{w:World}{s:List UInt8}{v:Value}:Rep c w (.str s) v↔v=.string ⟨s.toArray⟩:=Iff.rfl
theorem Qt{P:Program}{op:BinOp}{t:TypeId}{x y:Operand}{k k':IntKind}{a b:Int}(w:World):(eqGuard op t x y (.int k a) (.int k' b)).run P w=.ok () w:=by
 cases op<;>rfl
theorem Zly{P:Program}{op:BinOp}{t:TypeId}{x y:Operand}{a b:ByteArray}(w:World):(eqGuard op t x y (.string a) (.string b)).run P w=.ok () w:=by
 cases op<;>rfl
theorem Qyw{P:Program}{op:BinOp}{t:TypeId}{x y:Operand}{a b:Bool}(w:World):(eqGuard op t x y (.bool a) (.bool b)).run P w=.ok () w:=by
 cases op<;>rfl
theorem zal{P:Program}{op:BinOp}{t:TypeId}{k:IntKind}{a b:Int}{K:D->Prop}(rW:op≠.shl/\op≠.shr)(h:U0 op k a b K):
 ∃d,K d/\∀w,∃u,(binOp op t (.int k a) (.int k b)).run P w=.ok u w/\∀c,Rep c w d u:=by
 cases op<;>simp only[U0,c9,decide_eq_true_eq]at h
 case add=>exact⟨_,h,λw=>⟨_,by simp only[binOp,ne_eq,not_true_eq_false,if_false,Op.intArith,Sem.run_pure];try rfl,λc=>rfl⟩⟩
 case sub=>exact⟨_,h,λw=>⟨_,by simp only[binOp,ne_eq,not_true_eq_false,if_false,Op.intArith,Sem.run_pure];try rfl,λc=>rfl⟩⟩
 case mul=>exact⟨_,h,λw=>⟨_,by simp only[binOp,ne_eq,not_true_eq_false,if_false,Op.intArith,Sem.run_pure];try rfl,λc=>rfl⟩⟩
 case quo=>exact⟨_,h.2,λw=>⟨_,by simp only[binOp,ne_eq,not_true_eq_false,if_false,Op.intDiv,h.1,Sem.run_pure];try rfl,λc=>rfl⟩⟩
 case rem=>exact⟨_,h.2,λw=>⟨_,by simp only[binOp,ne_eq,not_true_eq_false,if_false,Op.intDiv,h.1,Sem.run_pure];try rfl,λc=>rfl⟩⟩
 case and=>exact⟨_,h,λw=>⟨_,by simp only[binOp,ne_eq,not_true_eq_false,if_false,Op.intBits,Sem.run_pure];try rfl,λc=>rfl⟩⟩
 case or=>exact⟨_,h,λw=>⟨_,by simp only[binOp,ne_eq,not_true_eq_false,if_false,Op.intBits,Sem.run_pure];try rfl,λc=>rfl⟩⟩
 case xor=>exact⟨_,h,λw=>⟨_,by simp only[binOp,ne_eq,not_true_eq_false,if_false,Op.intBits,Sem.run_pure];try rfl,λc=>rfl⟩⟩
 case andNot=>exact⟨_,h,λw=>⟨_,by simp only[binOp,ne_eq,not_true_eq_false,if_false,Op.intBits,Sem.run_pure];try rfl,λc=>rfl⟩⟩
 case eql=>exact⟨_,h,λw=>⟨_,by simp only[binOp,ne_eq,not_true_eq_false,if_false,Op.intCmp,Sem.run_pure];try rfl,λc=>rfl⟩⟩
 case neq=>exact⟨_,h,λw=>⟨_,by simp only[binOp,ne_eq,not_true_eq_false,if_false,Op.intCmp,Sem.run_pure];try rfl,λc=>rfl⟩⟩
 case lss=>exact⟨_,h,λw=>⟨_,by simp only[binOp,ne_eq,not_true_eq_false,if_false,Op.intCmp,Sem.run_pure];try rfl,λc=>rfl⟩⟩
 case leq=>exact⟨_,h,λw=>⟨_,by simp only[binOp,ne_eq,not_true_eq_false,if_false,Op.intCmp,Sem.run_pure];try rfl,λc=>rfl⟩⟩
 case gtr=>exact⟨_,h,λw=>⟨_,by simp only[binOp,ne_eq,not_true_eq_false,if_false,Op.intCmp,Sem.run_pure];try rfl,λc=>rfl⟩⟩
 case geq=>exact⟨_,h,λw=>⟨_,by simp only[binOp,ne_eq,not_true_eq_false,if_false,Op.intCmp,Sem.run_pure];try rfl,λc=>rfl⟩⟩
theorem Zet{P:Program}{t:TypeId}{k k':IntKind}{a b:Int}(hb:0<=b)(w:World):
 (binOp .shl t (.int k a) (.int k' b)).run P w=.ok (.int k (eg k a b)) w/\(binOp .shr t (.int k a) (.int k' b)).run P w=.ok (.int k (bf k a b)) w:=by
 have:¬b<0:=by omega
 constructor<;>(simp only[binOp];simp[Op.shift,this,eg,bf])
theorem xal{P:Program}{op:BinOp}{t:TypeId}{a b:List UInt8}{K:D->Prop}
 (h:match op with
  |.add=>cw (decide (a.length+b.length<=maxLen)) (K (.str (a++b)))
  |.eql=>K (.bool (decide (a=b)))
  |.neq=>K (.bool (!decide (a=b)))
  |_=>False):
 ∃d,K d/\∀w,∃u,(binOp op t (.string ⟨a.toArray⟩) (.string ⟨b.toArray⟩)).run P w=.ok u w/\∀c,Rep c w d u:=by
 cases op<;>simp only[c9,decide_eq_true_eq]at h
 case add=>
  refine⟨_,h.2,λw=>⟨_,?_,λc=>rfl⟩⟩
  have hl:¬(((a.toArray.size+b.toArray.size:Nat):Int)>IntKind.i64.max):=by
   have:=h.1
   unfold maxLen at this
   simp only[List.size_toArray,IntKind.max,IntKind.signed,IntKind.bits,if_true]
   omega
  simp only[binOp]
  simp only[Op.stringOp,ByteArray.size,hl,if_false,Sem.run_pure,Zid]
 case eql=>
  refine⟨_,h,λw=>⟨_,?_,λc=>rfl⟩⟩
  simp only[binOp]
  simp only[Op.stringOp,Sem.run_pure,ByteArray.toList_mk,show(a==b)=decide (a=b) from by rw[eH];simp]
  try rfl
 case neq=>
  refine⟨_,h,λw=>⟨_,?_,λc=>rfl⟩⟩
  simp only[binOp]
  simp only[Op.stringOp,Sem.run_pure,ByteArray.toList_mk,show(a==b)=decide (a=b) from by rw[eH];simp]
  try rfl
def Gi(P:Program)(x:Sem Value)(w:World)(c:Ctx)(d:D):Prop:=∃u,x.run P w=.ok u w/\Rep c w d u
theorem mY{P:Program}{T:fj}(hT:jF P T){t:TypeId}{k:TK}{a b:Nat}{cs:List rm}{z:Option (List D)}{e:Bool}(h:T.get t=some ⟨k,a,b,cs,z,e⟩):
 match k with
 |.int j=>P.underlying t=some (.int j)
 |.bool=>P.underlying t=some .bool
 |.string=>P.underlying t=some .string
 |.slice u n=>P.underlying t=some (.slice u)/\P.cellsOf u=n
 |.struct fs=>∃gs,P.underlying t=some (.struct gs)/\fs=gs.toList.map λf=>(f.offset,f.type,P.cellsOf f.type)
 |.array m u n=>P.underlying t=some (.array m u)/\P.cellsOf u=n
 |.other=>True:=by
 obtain⟨i,hi,hs,hb,hl,hk,_⟩:=DV (hT.get h)
 simp only at hk
 unfold Hx at hk
 split at hk<;>(subst hk;simp_all)
theorem qam{P:Program}{T:fj}(hT:jF P T){s d:TypeId}{x:D}{K:D->Prop}(h:MM T s d x K):
 ∃val,K val/\∀c w v,Rep c w x v->Gi P (convert s d v) w c val:=by
 unfold MM at h
 split at h
 ·rename_i k1 _ _ _ _ _ k2 _ _ _ _ _ hs hd
  have h1:=mY hT hs
  have h2:=mY hT hd
  simp only at h1 h2
  cases x<;>simp only at h
  exact⟨_,h,λc w v hv=>⟨_,by rw[Rep.int.1 hv];simp only[convert,Sem.run_bind,run_underlying h1,run_underlying h2,Result.andThen_ok,Conv.intToInt,Sem.run_pure],rfl⟩⟩
 ·rename_i hs hd
  have h1:=mY hT hs
  have h2:=mY hT hd
  simp only at h1 h2
  cases x<;>simp only at h
  exact⟨_,h,λc w v hv=>⟨_,by rw[Rep.str.1 hv];simp only[convert,Sem.run_bind,run_underlying h1,run_underlying h2,Result.andThen_ok,Sem.run_pure],rfl⟩⟩
 ·exact h.elim
theorem Qyk{P:Program}{T:fj}(hT:jF P T){s:TypeId}{f o:Nat}{q:TypeId×Nat}(h:QJ T s f=some (o,q)):
 ∃fs fd,P.underlying s=some (.struct fs)/\fs[f]?=some fd/\fd.offset=o/\fd.type=q.1/\P.cellsOf fd.type=q.2:=by
 unfold QJ at h
 split at h
 ·rename_i fs _ _ _ _ _ ht
  obtain⟨i,hi,hs,hb,hl,hk,_⟩:=DV (hT.get ht)
  simp only at hk
  unfold Hx at hk
  split at hk<;>try(cases hk;done)
  rename_i gs hd
  simp only[TK.struct.injEq]at hk
  subst hk
  simp only[List.getElem?_map,fR,Prod.mk.injEq,Array.getElem?_toList]at h
  obtain⟨fd,h1,h2,h3⟩:=h
  exact⟨gs,fd,hd,h1,h2,by rw[<-h3],by rw[<-h3]⟩
 ·cases h
theorem Zc5{P:Program}{t:TypeId}(h:0<P.cellsOf t):∃i,P.info? t=some i:=by
 unfold Program.cellsOf at h
 cases hi:P.info? t with
 |none=>simp[hi]at h
 |some i=>exact⟨i,rfl⟩
theorem BE{P:Program}{t:TypeId}(h:0<P.cellsOf t)(w:World):(sizeOf t).run P w=.ok (P.cellsOf t) w:=by
 obtain⟨i,hi⟩:=Zc5 h
 exact run_sizeOf w hi
theorem Z22{P:Program}{s:TypeId}{fs:Array Field}{f:Nat}{fd:Field}(hs:P.underlying s=some (.struct fs))(hf:fs[f]?=some fd)(h0:0<P.cellsOf fd.type)(b o:Nat)(w:World):
 (Instr.fieldAt s (.pointer (some ⟨b,o,none⟩)) f).run P w=.ok (.pointer (some ⟨b,o+fd.offset,none⟩)) w:=by
 have h1:¬P.cellsOf fd.type=0:=by omega
 simp only[Instr.fieldAt,Sem.run_bind,run_underlying hs,Result.andThen_ok,hf,Instr.sureAddr,Sem.run_pure,fieldPlace,BE h0,Sem.run_ite,h1,if_false,FL]
theorem Zqk{P:Program}{T:fj}(hT:jF P T){t:TypeId}{x:D}{U1:Bool}{n:Int}{k:IntKind}{R:Rows}{K:D->Rows->Prop}(h:U4 T t x U1 n R K):
 ∃val,K val R/\∀c w v,Mem c w->mK c R->Rep c w x v->Gi P (Instr.indexAt t v (.int k n)) w c val:=by
 unfold U4 at h
 split at h
 ·rename_i e iR _ _ _ _ _ ht
  have hk:=mY hT ht
  simp only at hk
  obtain⟨hu,fv⟩:=hk
  have ZE:∀(b o len cap:Nat) (w:World),0<iR->0<=n->n<len->(Instr.indexAt t (.slice (some ⟨b,o,none⟩) len cap) (.int k n)).run P w=.ok (.pointer (some ⟨b,o+n.toNat*iR,none⟩)) w:=by
   intro b o len cap w h0 h1 h2
   simp only[Instr.indexAt,asIntOf,Sem.run_bind,Sem.run_pure,Result.andThen_ok,run_underlying hu,Sem.run_ite,h1,h2,and_self,if_true,BE (fv▸h0),fv,FL]
  cases x<;>simp only[c9,aE,decide_eq_true_eq,<-ai.iK]at h
  case sl sz es fr=>
   obtain⟨⟨⟨h1,h0⟩,h2,h3⟩,h⟩:=h
   have h1:=bE h1
   have h0:0<iR:=lE h0
   subst h1
   refine⟨_,h,λc w v hm hA hv=>?_⟩
   obtain⟨a,cap,hv,hc,gx⟩:=hv
   rcases gx with gx|⟨b,off,arr,ty,fz,ha,hI,hf,hh,hE⟩
   ·rw[gx]at h3;simp at h3;omega
   ·subst ha;subst hv
    refine⟨_,ZE b off _ _ w h0 h2 h3,b,off,arr,ty,fz,by simp,hI,by omega,hh,hE⟩
  case all r=>
   split at h
   ·rename_i box ty sz es hR
    obtain⟨⟨⟨h1,h0⟩,h2,h3⟩,h⟩:=h
    have h1:=bE h1
    have h0:0<iR:=lE h0
    subst h1
    refine⟨_,h,λc w v hm hA hv=>?_⟩
    obtain⟨row,g1,g2,hv⟩:=hv
    have:=hA r row _ g1 hR
    subst this
    rcases hv with⟨hV,a,hv,_⟩|⟨hV,cap,arr,hv,g3,g4,g5,g6⟩
    ·have:=(hm.oi g1 hV).2.1
     simp only at this
     rw[this]at h3
     simp at h3;omega
    ·subst hv
     exact⟨_,ZE _ 0 _ _ w h0 h2 h3,_,g1,hV,by simp only;omega,by simp⟩
   ·exact h.elim
  case own r o m=>
   split at h
   ·rename_i box ty sz es hR
    obtain⟨⟨⟨h1,h0⟩,h2,h3⟩,h⟩:=h
    have h1:=bE h1
    have h0:0<iR:=lE h0
    subst h1
    refine⟨_,h,λc w v hm hA hv=>?_⟩
    obtain⟨row,g1,g2,g5,hv⟩:=hv
    have:=hA r row _ g1 hR
    subst this
    simp only at*
    rcases hv with⟨g7,_⟩|⟨hV,cap,arr,g3,g4,g6,hv,g7⟩
    ·omega
    ·subst hv
     exact⟨_,ZE _ _ _ _ w h0 h2 h3,_,g1,hV,by simp only;omega,by simp[Nat.add_mul]⟩
   ·exact h.elim
 ·rename_i len e iR _ _ _ _ _ ht
  have hk:=mY hT ht
  simp only at hk
  obtain⟨hu,fv⟩:=hk
  simp only[c9,aE,decide_eq_true_eq]at h
  obtain⟨⟨h0,h2,h3⟩,h⟩:=h
  have h0:0<iR:=lE h0
  have Dm:∀(b o:Nat) (w:World),(Instr.indexAt t (.pointer (some ⟨b,o,none⟩)) (.int k n)).run P w=.ok (.pointer (some ⟨b,o+n.toNat*iR,none⟩)) w:=by
   intro b o w
   simp only[Instr.indexAt,asIntOf,Sem.run_bind,Sem.run_pure,Result.andThen_ok,run_underlying hu,Instr.sureAddr,Sem.run_ite,h2,h3,and_self,if_true,BE (fv▸h0),fv,FL]
  cases x<;>simp only at h
  case ptr r i off=>
   have Ad:K (.ptr r i (off+n.toNat*iR)) R->∃val,K val R/\∀c w v,Mem c w->mK c R->Rep c w (.ptr r i off) v->Gi P (Instr.indexAt t v (.int k n)) w c val:=λh=>
    ⟨_,h,λc w v hm hA hv=>by
     obtain⟨row,g1,gV,g2,hv⟩:=hv
     subst hv
     exact⟨_,Dm _ _ w,row,g1,gV,g2,by simp[fZ]⟩⟩
   have QK:∀kk,Nat.beq iR 1=true->K (.pa r i off len kk n.toNat) R->∃val,K val R/\∀c w v,Mem c w->mK c R->Rep c w (.ptr r i off) v->Gi P (Instr.indexAt t v (.int k n)) w c val:=λkk h1 h=>
    ⟨_,h,λc w v hm hA hv=>by
     obtain⟨row,g1,gV,g2,hv⟩:=hv
     have h1:=bE h1
     subst hv
     exact⟨_,Dm _ _ w,by omega,row,g1,gV,g2,by simp[fZ,h1]⟩⟩
   cases U1 with
   |true=>exact Ad h
   |false=>
    simp only at h
    split at h
    ·exact QK _ h.1 h.2
    ·exact QK _ h.1 h.2
    ·exact Ad h
  case iw sz es i off=>
   refine⟨_,h,λc w v hm hA hv=>?_⟩
   obtain⟨b,o,arr,ty,fz,hv,hI,hi,hh,hE⟩:=hv
   subst hv
   exact⟨_,Dm _ _ w,b,o,arr,ty,fz,by simp[fZ],hI,hi,hh,hE⟩
 ·exact h.elim
theorem qY{ev:Operand->D}{x:Option Operand}{n l:Int}{c:Ctx}{w:World}{ρ:Operand->Value}(h:sg x ev n=some l)(hr:∀y,x=some y->Rep c w (ev y) (ρ y)):
 (x=none/\l=n)\/∃y k,x=some y/\ρ y=.int k l:=by
 cases x with
 |none=>simp[sg]at h;exact .inl ⟨rfl,h.symm⟩
 |some y=>
  simp only[sg]at h
  cases hd:ev y<;>simp only[hd]at h<;>try(cases h;done)
  have:=hr y rfl
  rw[hd]at this
  simp only[Option.some.injEq]at h
  subst h
  exact .inr ⟨y,_,rfl,Rep.int.1 this⟩
theorem Z8a{P:Program}{b:Bool}{len cap:Nat}{lo hi:Option Operand}{ev:Operand->D}{l h:Int}{c:Ctx}{w:World}{ρ:Operand->Value}
 (hl:sg lo ev 0=some l) (hh:sg hi ev len=some h) (rI:∀y,lo=some y->Rep c w (ev y) (ρ y)) (Bg:∀y,hi=some y->Rep c w (ev y) (ρ y))
 (h0:0<=l) (h1:l<=h) (h2:h<=cap):(Instr.sliceBounds b len cap (lo.map ρ) (hi.map ρ) none).run P w=.ok (l.toNat,h.toNat,cap) w:=by
 have bound:∀(k:IntKind) (i:Int) (y:Nat) (code:BoundsCode),0<=i->i<=y->(Instr.sliceBound (.int k i) y code).run P w=.ok i.toNat w:=by
  intro k i y code a1 a2
  simp[Instr.sliceBound,asIntOf,a1,a2]
 rcases qY hh Bg with⟨rfl,rfl⟩|⟨y,k,rfl,hy⟩<;>rcases qY hl rI with⟨rfl,rfl⟩|⟨z,k',rfl,hz⟩
 ·simp[Instr.sliceBounds]
 ·simp[Instr.sliceBounds,hz,bound k' l len _ h0 h1]
 ·simp[Instr.sliceBounds,hy,bound k h cap _ (by omega) h2]
 ·simp[Instr.sliceBounds,hy,hz,bound k h cap _ (by omega) h2,bound k' l h.toNat _ h0 (by omega)]
theorem KB{I:ag}{w:World}:∀{es:List (List D)} {arr:Array Value} {off sz l:Nat},iN I w es arr off sz->iN I w (es.drop l) arr (off+l*sz) sz
 |es,arr,off,sz,0,h=>by simpa using h
 |[],arr,off,sz,l+1,h=>by simp[pT,oq]
 |e::es,arr,off,sz,l+1,h=>by
  simp only[pT,oq]at h
  have:=KB (l:=l) h.2.2
  rw[show off+(l+1)*sz=off+sz+l*sz by rw[aW];omega]
  simpa using this
theorem Mx{I:ag}{w:World}:∀{es:List (List D)} {arr:Array Value} {off sz n:Nat},iN I w es arr off sz->iN I w (es.take n) arr off sz
 |es,arr,off,sz,0,h=>by simp[pT,oq]
 |[],arr,off,sz,n+1,h=>by simp[pT,oq]
 |e::es,arr,off,sz,n+1,h=>by
  simp only[pT,oq]at h
  simp only[List.take_succ_cons,pT,oq]
  exact⟨h.1,h.2.1,Mx h.2.2⟩
theorem Ze(s:List UInt8)(l h:Nat):(ByteArray.mk s.toArray).extract l h=⟨((s.drop l).take (h-l)).toArray⟩:=by
 rw[Lib.extract_eq]
theorem Zi0:∀{e:List D} {off n:Nat},(ints e off n).length=n
 |_,_,0=>rfl
 |e,off,n+1=>by simp[ints,Zi0]
theorem Z8v{I:ag}{w:World}{k:IntKind}{e:List D}{arr:Array Value}{o:Nat}(h:nT I w e arr o):∀{n off:Nat},off+n<=e.length->Df k e off n=true->iN I w (ai.ints k (ints e off n)).l arr (o+off) 1
 |0,_,_,_=>pT.2 trivial
 |n+1,off,hl,ha=>by
  simp only[Df,aE]at ha
  obtain⟨v,hv,hp⟩:=UG h (j:=off) (by omega)
  rw[D.ko ha.1]at hp
  have r:=Z8v h (n:=n) (off:=off+1) (by omega) ha.2
  rw[show o+(off+1)=o+off+1 by omega]at r
  exact oq.2 ⟨rfl,Aw.2 ⟨⟨v,hv,hp⟩,BU.2 trivial⟩,r⟩
theorem yO{P:Program}{T:fj}(hT:jF P T){t:TypeId}{x:D}{lo hi:Option Operand}{ev:Operand->D}{R:Rows}{K:D->Rows->Prop}(h:MN T t x lo hi ev R K):
 ∃ val,K val R/\∀c w v (ρ:Operand->Value),Mem c w->mK c R->Rep c w x v->(∀y,lo=some y->Rep c w (ev y) (ρ y))->(∀y,hi=some y->Rep c w (ev y) (ρ y))->
  Gi P (Instr.sliceAt t v (lo.map ρ) (hi.map ρ) none) w c val:=by
 unfold MN at h
 split at h
 ·rename_i ht
  have hu:=mY hT ht
  simp only at hu
  cases x<;>simp only at h
  case str s=>
   split at h
   ·rename_i l u hl hh
    try rw[<-ai.iK]at hh
    simp only[c9,decide_eq_true_eq]at h
    obtain⟨⟨h0,h1,h2⟩,h⟩:=h
    refine⟨_,h,λc w v ρ hm hA hv rI Bg=>?_⟩
    rw[Rep.str.1 hv]
    refine⟨_,?_,rfl⟩
    have hb:=Z8a (P:=P) (b:=false) (len:=s.length) (cap:=s.length) hl hh rI Bg h0 h1 h2
    have fv:(ByteArray.mk s.toArray).size=s.length:=by simp[ByteArray.size]
    simp only[Instr.sliceAt,Sem.run_bind,run_underlying hu,Result.andThen_ok,Instr.slice,Option.isSome_none,aN,if_false,fv,hb,Sem.run_pure,Ze]
   ·exact h.elim
 ·rename_i e iR _ _ _ _ _ ht
  have hk:=mY hT ht
  simp only at hk
  obtain⟨hu,fv⟩:=hk
  have sl:∀(a:Option Addr) (len cap:Nat) (l u:Int) (c:Ctx) (w:World) (ρ:Operand->Value),0<iR->sg lo ev 0=some l->sg hi ev len=some u->(∀y,lo=some y->Rep c w (ev y) (ρ y))->(∀y,hi=some y->Rep c w (ev y) (ρ y))->
   0<=l->l<=u->u<=cap->(Instr.sliceAt t (.slice a len cap) (lo.map ρ) (hi.map ρ) none).run P w=.ok (.slice (if cap=l.toNat then a else a.map (·.add (l.toNat*iR))) (u.toNat-l.toNat) (cap-l.toNat)) w:=by
   intro a len cap l u c w ρ h0 hl hh rI Bg g0 g1 g2
   have hb:=Z8a (P:=P) (b:=true) (len:=len) (cap:=cap) hl hh rI Bg g0 g1 g2
   simp only[Instr.sliceAt,Sem.run_bind,run_underlying hu,Result.andThen_ok,Instr.slice,hb,BE (fv▸h0),fv,Sem.run_pure]
  cases x<;>simp only at h
  case sl sz es fr=>
   split at h
   ·rename_i l u hl hh
    try rw[<-ai.iK]at hh
    simp only[c9,aE,decide_eq_true_eq,<-ai.iK]at h
    obtain⟨⟨⟨h1,h0⟩,g0,g1,g2⟩,h⟩:=h
    have h1:=bE h1
    have h0:0<iR:=lE h0
    subst h1
    refine⟨_,h,λc w v ρ hm hA hv rI Bg=>?_⟩
    obtain⟨a,cap,hv,hc,gx⟩:=hv
    subst hv
    refine⟨_,sl a _ cap l u c w ρ h0 hl hh rI Bg g0 g1 (by omega),?_⟩
    have hlen:((es.drop l.toNat).take (u.toNat-l.toNat)).l.length=u.toNat-l.toNat:=by rw[ai.jf,ai.kv];simp only[List.length_take,List.length_drop];omega
    refine⟨_,cap-l.toNat,by rw[hlen],by omega,?_⟩
    rw[ai.jf,ai.kv]
    by_cases hlu:l=u
    ·left
     subst hlu
     simp
    ·rcases gx with gx|⟨b,off,arr,ty,fz,ha,hI,hf,hh,hE⟩
     ·rw[gx]at g2;simp at g2;omega
     ·right
      subst ha
      refine⟨b,off+l.toNat*sz,arr,ty,fz,?_,hI,hf,hh,Mx (KB hE)⟩
      rw[if_neg (by omega)]
      simp[FL]
   ·exact h.elim
  case all r=>
   split at h
   ·rename_i box ty sz es hR
    split at h
    ·rename_i l u hl hh
     try rw[<-ai.iK]at hh
     simp only[c9,aE,decide_eq_true_eq,<-ai.iK]at h
     obtain⟨⟨⟨h1,h0⟩,g0,g1,g2⟩,h⟩:=h
     have h1:=bE h1
     have h0:0<iR:=lE h0
     subst h1
     refine⟨_,h,λc w v ρ hm hA hv rI Bg=>?_⟩
     obtain⟨row,k1,k2,hv⟩:=hv
     have:=hA r row _ k1 hR
     subst this
     rcases hv with⟨hV,a,hv,AJ⟩|⟨hV,cap,arr,hv,k3,k4,k5,k6⟩
     ·have he:=(hm.oi k1 hV).2.1
      simp only at he
      rw[he]at g2 hh
      simp at g2
      subst hv
      refine⟨_,sl a 0 0 l u c w ρ h0 hl hh rI Bg g0 g1 (by omega),_,k1,k2,by simp only[he,dI];omega,.inl ⟨by omega,a,?_,.inl AJ⟩⟩
      rw[if_pos (by omega)]
      simp;omega
     subst hv
     simp only at*
     refine⟨_,sl _ _ cap l u c w ρ h0 hl hh rI Bg g0 g1 (by omega),_,k1,k2,by simp only;omega,?_⟩
     by_cases gz:cap=l.toNat
     ·left
      exact⟨by omega,some ⟨c.ρ r,0,none⟩,by rw[if_pos gz,show u.toNat-l.toNat=0 by omega,show cap-l.toNat=0 by omega],.inr ⟨hV,λx hx=>by cases hx;rfl⟩⟩
     ·right
      refine⟨hV,cap-l.toNat,arr,by omega,by omega,k5,by rw[if_neg gz];simp[FL],?_⟩
      rw[<-k6];congr 1;omega
    ·exact h.elim
   ·exact h.elim
  case own r o m=>
   split at h
   ·rename_i box ty sz es hR
    split at h
    ·rename_i l u hl hh
     try rw[<-ai.iK]at hh
     simp only[c9,aE,decide_eq_true_eq,<-ai.iK]at h
     obtain⟨⟨⟨h1,h0⟩,g0,g1,g2⟩,h⟩:=h
     have h1:=bE h1
     have h0:0<iR:=lE h0
     subst h1
     refine⟨_,h,λc w v ρ hm hA hv rI Bg=>?_⟩
     obtain⟨row,k1,k2,k5,hv⟩:=hv
     have:=hA r row _ k1 hR
     subst this
     simp only at*
     rcases hv with⟨k7,a,hv,AJ⟩|⟨hV,cap,arr,k3,k4,k6,hv,k7⟩
     ·subst hv
      subst k7
      refine⟨_,sl a 0 0 l u c w ρ h0 hl hh rI Bg g0 g1 (by omega),_,k1,k2,by simp only;omega,.inl ⟨by omega,a,?_,AJ⟩⟩
      rw[if_pos (by omega)]
      simp;omega
     ·subst hv
      refine⟨_,sl _ _ cap l u c w ρ h0 hl hh rI Bg g0 g1 (by omega),_,k1,k2,by simp only;omega,?_⟩
      by_cases gz:cap=l.toNat
      ·left
       exact⟨by omega,some ⟨c.ρ r,o*sz,none⟩,by rw[if_pos gz,show u.toNat-l.toNat=0 by omega,show cap-l.toNat=0 by omega],.inr ⟨hV,λx hx=>by cases hx;rfl⟩⟩
      ·right
       refine⟨hV,cap-l.toNat,arr,by omega,by omega,k6,by rw[if_neg gz];simp[FL,Nat.add_mul],?_⟩
       simp only
       rw[<-k7];congr 1;omega
    ·exact h.elim
   ·exact h.elim
 ·rename_i len e iR _ _ _ _ _ ht
  have hk:=mY hT ht
  simp only at hk
  obtain⟨hu,fv⟩:=hk
  cases x
  case iw sz es i off=>
   split at h
   ·rename_i heq
    cases heq
    split at h
    ·rename_i k _ _ _ _ _ he
     simp only[c9,aE]at h
     obtain⟨⟨h1,h2,h3⟩,h⟩:=h
     have h1:=bE h1
     have h2:=lE h2
     subst h1
     refine⟨_,h,λc w v ρ hm hA hv _ _=>?_⟩
     obtain⟨b,o,arr,ty,fz,hv,hI,hi,hh,hE⟩:=hv
     subst hv
     obtain⟨q1,q2⟩:=UH hE hi
     rw[ai.nn es (by rw[<-ai.iK];exact hi)]at q1 q2
     have hlen:(ai.ints k (ints (es.get i) off len)).l.length=len:=by simp[ai.l,Zi0]
     refine⟨.slice (some (if len=0 then⟨b,o+i*sz+off,none⟩else Addr.add ⟨b,o+i*sz+off,none⟩ (0*1))) len len,?_,⟨_,len,by rw[hlen],by rw[hlen];exact aO _,.inr ⟨b,o+i*sz+off,arr,ty,fz,?_,hI,(λhf=>by cases hf),hh,Z8v q2 (by omega) h3⟩⟩⟩
     ·simp only[Instr.sliceAt,Instr.sureAddr,Instr.sliceBounds,Sem.run_bind,run_underlying hu,Result.andThen_ok,Sem.run_pure,BE (fv▸Nat.zero_lt_one),fv,Option.map_none,gD]
     ·congr 1
      split
      ·rfl
      ·simp[FL]
    ·exact h.elim
   ·exact h.elim
  all_goals exact h.elim
 ·exact h.elim
theorem xaB{P:Program}{T:fj}(hT:jF P T){t t':TypeId}{x:D}{R:Rows}{K:D->Rows->Prop}(h:tj T t x R K):
 ∃val,K val R/\∀c w v,Mem c w->mK c R->Rep c w x v->Gi P (Builtin.len_ #[t] t' #[v]) w c val:=by
 unfold tj at h
 split at h
 ·rename_i ht
  have hu:=mY hT ht
  simp only at hu
  cases x<;>simp only at h
  rename_i s
  refine⟨_,h,λc w v hm hA hv=>⟨_,?_,rfl⟩⟩
  rw[Rep.str.1 hv]
  have fv:(ByteArray.mk s.toArray).size=s.length:=by simp[ByteArray.size]
  have h0:(#[t]:Array TypeId)[0]?=some t:=rfl
  have h1:(#[Value.string ⟨s.toArray⟩]:Array Value)[0]?=some (Value.string ⟨s.toArray⟩):=rfl
  unfold Builtin.len_
  simp only[h0,h1,Sem.run_bind,run_underlying hu,Result.andThen_ok,goInt,fv,Sem.run_pure]
 ·rename_i e iR _ _ _ _ _ ht
  have hk:=mY hT ht
  simp only at hk
  obtain⟨hu,fv⟩:=hk
  have ln:∀(a:Option Addr) (n cap:Nat) (w:World),(Builtin.len_ #[t] t' #[.slice a n cap]).run P w=.ok (.int .i64 n) w:=by
   intro a n cap w
   simp[Builtin.len_,run_underlying hu,goInt]
  cases x<;>simp only at h
  case du=>exact⟨_,h,λc w v hm hA hv=>⟨_,by rw[show v=_ from hv];exact ln _ _ _ w,rfl⟩⟩
  case emp=>exact⟨_,h,λc w v hm hA hv=>by obtain⟨a,hv,_⟩:=hv;subst hv;exact⟨_,ln _ _ _ w,rfl⟩⟩
  case sl sz es fr=>
   refine⟨_,h,λc w v hm hA hv=>?_⟩
   obtain⟨a,cap,hv,_⟩:=hv
   subst hv
   exact⟨_,ln _ _ _ w,by rw[ai.iK];rfl⟩
  case all r=>
   split at h
   ·rename_i box ty sz es hR
    refine⟨_,h,λc w v hm hA hv=>?_⟩
    obtain⟨row,k1,k2,hv⟩:=hv
    have:=hA r row _ k1 hR
    subst this
    rcases hv with⟨hV,a,hv,_⟩|⟨hV,cap,arr,hv,k3,k4,k5,k6⟩
    ·have he:=(hm.oi k1 hV).2.1
     simp only at he
     subst hv
     refine⟨_,ln _ _ _ w,?_⟩
     rw[<-ai.iK,he];rfl
    ·subst hv
     exact⟨_,ln _ _ _ w,by simp only[ai.iK];rfl⟩
   ·exact h.elim
  case own r o m=>
   refine⟨_,h,λc w v hm hA hv=>?_⟩
   obtain⟨row,k1,k2,k5,hv⟩:=hv
   rcases hv with⟨h0,a,hv,_⟩|⟨hV,cap,arr,k3,k4,k6,hv,k7⟩
   ·subst hv;subst h0;exact⟨_,ln _ _ _ w,rfl⟩
   ·subst hv;exact⟨_,ln _ _ _ w,rfl⟩
 ·exact h.elim
theorem jt.set{c:Ctx}{w:World}:∀{ds:List D} {vs:List Value} {d:D} {v:Value} (i:Nat),jt c w ds vs->cz c w d v->jt c w (ds.set i d) (vs.set i v)
 |[],[],_,_,_,h,_=>by simpa using h
 |[],_::_,_,_,_,h,_=>h.elim
 |_::_,[],_,_,_,h,_=>h.elim
 |a::ds,b::vs,d,v,0,h,hd=>⟨hd,h.2⟩
 |a::ds,b::vs,d,v,i+1,h,hd=>⟨h.1,jt.set i h.2 hd⟩
theorem jt.length{c:Ctx}{w:World}{ds:List D}{vs:List Value}(h:jt c w ds vs):ds.length=vs.length:=(EC.1 h).1
theorem Rep.cells{c:Ctx}{w:World}{d:D}{v:Value}(hd:d.isVal=true)(h:Rep c w d v):jt c w d.cells v.cells.toList:=by
 have one:∀d':D,cz c w d' v->jt c w [d'] v.cells.toList:=λd' h'=>by
  have h1:=h'.one
  have:v.cells= #[v]:=by cases v<;>first|rfl|(simp[Value.oneCell']at h1)
  rw[this]
  exact⟨h',trivial⟩
 cases d with
 |agg cs=>
  obtain⟨vs,hv,hr⟩:=h
  subst hv
  simpa[Value.cells,D.cells]using hr
 |dt ds=>simp[D.isVal]at hd
 |dead=>simp[D.isVal]at hd
 |_=>exact one _ h
theorem QL:∀{xs:List D} {ds:List D} {off:Nat},(lD ds off xs).length=ds.length
 |[],_,_=>rfl
 |x::xs,ds,off=>by unfold lD;rw[QL];simp
def pK:List Value->Nat->List Value->List Value
 |e,_,[]=>e
 |e,off,v::vs=>pK (e.set off v) (off+1) vs
theorem Qzc{c:Ctx}{w:World}:∀{xs:List D} {us:List Value} {ds:List D} {vs:List Value} {off:Nat},jt c w ds vs->jt c w xs us->jt c w (lD ds off xs) (pK vs off us)
 |[],[],_,_,_,h,_=>h
 |[],_::_,_,_,_,_,h=>h.elim
 |_::_,[],_,_,_,_,h=>h.elim
 |x::xs,u::us,ds,vs,off,h,hx=>by unfold lD pK;exact Qzc (h.set off hx.1) hx.2
theorem Qrs:∀(us:List Value) (k off:Nat) (cells:Array Value),
 ((us.zipIdx k).foldl (λcs (x:Value×Nat)=>cs.setIfInBounds (off+x.2) x.1) cells).toList=pK cells.toList (off+k) us
 |[],_,_,_=>by simp[pK]
 |u::us,k,off,cells=>by
  simp only[List.zipIdx_cons,List.foldl_cons,pK]
  rw[Qrs us (k+1) off]
  simp[Array.toList_setIfInBounds,fZ]
theorem Zev(v:Value)(off:Nat)(cells:Array Value):
 (v.cells.zipIdx.foldl (λcs (x:Value×Nat)=>cs.setIfInBounds (off+x.2) x.1) cells).toList=pK cells.toList off v.cells.toList:=by
 rw[<-Array.foldl_toList,Array.toList_zipIdx]
 exact Qrs v.cells.toList 0 off cells
theorem ZF{place:Nat->Option (Nat×Nat)}{ev:Operand->D}:∀{parts:List (Nat×Operand)} {ds:List D} {K:List D->Prop},F0 place ev parts ds K->
 ∃ ou,K ou/\∀c w (ρ:Operand->Value) (cells:Array Value),jt c w ds cells.toList->(∀p∈parts,Rep c w (ev p.2) (ρ p.2))->
  ∃ff,Instr.fill place cells (parts.map λp=>(p.1,ρ p.2))=some ff/\jt c w ou ff.toList
 |[],ds,K,h=>⟨ds,D.fh.1 h,λc w ρ cells hr _=>⟨cells,rfl,hr⟩⟩
 |(i,x)::ps,ds,K,h=>by
  unfold F0 at h
  split at h
  ·rename_i off n hp
   simp only[c9,aE]at h
   obtain⟨⟨⟨hv,hn⟩,hle⟩,h⟩:=h
   have hn:=bE hn
   have hle:=lE hle
   obtain⟨ou,hK,hr⟩:=ZF h
   refine⟨ou,hK,λc w ρ cells hc mj=>?_⟩
   have hx:=Rep.cells hv (mj (i,x) (by simp))
   have hlen:(ρ x).cells.size=n:=by rw[<-hn,hx.length];simp
   have fv:cells.size=ds.length:=by rw[hc.length];simp
   have fg:jt c w (lD ds off (ev x).cells) ((ρ x).cells.zipIdx.foldl (λcs (x:Value×Nat)=>cs.setIfInBounds (off+x.2) x.1) cells).toList:=by
    rw[Zev];exact Qzc hc hx
   obtain⟨ff,h1,h2⟩:=hr c w ρ _ fg (λp hp=>mj p (by simp[hp]))
   refine⟨ff,?_,h2⟩
   simp only[fS,Instr.fill,hp]
   rw[if_neg (by simp;omega)]
   exact h1
  ·exact h.elim
theorem Z92{v:Value}{d:D}(h:QM v=some d)(c:Ctx)(w:World):cz c w d v:=by
 cases v<;>simp only[QM]at h<;>first|(cases h;done)|skip
 case nilIface=>simp at h;subst h;rfl
 case nilFunc=>simp at h;subst h;rfl
 case bool b=>simp at h;subst h;rfl
 case int k n=>simp at h;subst h;rfl
 case string s=>simp at h;subst h;simp[cz]
 case pointer a=>cases a<;>simp at h;subst h;rfl
 case slice a n cp=>
  split at h
  all_goals first|(simp at h;subst h;simp_all [cz];done)|(simp_all;done)
theorem JR:∀{vs:List Value} {ds:List D},BD vs=some ds->∀(c:Ctx) (w:World),jt c w ds vs
 |[],ds,h,c,w=>by simp[BD]at h;subst h;trivial
 |v ::vs,ds,h,c,w=>by
  simp only[BD]at h
  split at h
  ·rename_i d l h1 h2
   simp at h;subst h
   exact⟨Z92 h1 c w,JR h2 c w⟩
  ·cases h
theorem Nj{v:Value}{d:D}(h:Gg v=some d)(c:Ctx)(w:World):Rep c w d v:=by
 have one:QM v=some d->Rep c w d v:=λh=>by
  have:=Z92 h c w
  cases d<;>first|exact this|trivial|exact this.elim
 cases v with
 |agg cs=>
  simp only[Gg,fR]at h
  obtain⟨ds,h1,h2⟩:=h
  subst h2
  exact⟨cs.toList,by simp,JR h1 c w⟩
 |_=>exact one h
theorem JH{P:Program}{T:fj}(hT:jF P T){t:TypeId}{k:TK}{a b:Nat}{cs:List rm}{z:List D}{e:Bool}(h:T.get t=some ⟨k,a,b,cs,some z,e⟩):
 ∃i u,P.info? t=some i/\i.zero=some u/\BD u.cells.toList=some z/\i.size=a/\i.bytes=b/\P.cellsOf t=a/\∀w,(zeroValue t).run P w=.ok u w:=by
 obtain⟨i,hi,hs,hb,hl,hk,hz,_⟩:=DV (hT.get h)
 simp only at hz hs hb
 have hz:=hz.symm
 simp only[Option.bind_eq_some_iff]at hz
 obtain⟨u,hu,hz⟩:=hz
 refine⟨i,u,hi,hu,hz,hs,hb,by simp[Program.cellsOf,hi,hs],λw=>?_⟩
 simp[zeroValue,typeInfo,hi,hu]
theorem Z9j{P:Program}(w:World):∀(fs:List Field),(∀f∈fs,0<P.cellsOf f.type)->
 (fs.mapM λf=>do pure (f.offset,<-sizeOf f.type):Sem (List (Nat×Nat))).run P w=.ok (fs.map λf=>(f.offset,P.cellsOf f.type)) w
 |[],_=>rfl
 |f::fs,h=>by
  simp only[List.mapM_cons,Sem.run_bind,BE (h f (by simp)),Result.andThen_ok,Sem.run_pure,Z9j w fs (λg hg=>h g (by simp[hg])),fS]
theorem vO{P:Program}{T:fj}(hT:jF P T){t:TypeId}{parts:List (Nat×Operand)}{ev:Operand->D}{R:Rows}{K:D->Rows->Prop}(h:MO T t parts ev R K):
 ∃val,K val R/\∀c w (ρ:Operand->Value),(∀p∈parts,Rep c w (ev p.2) (ρ p.2))->Gi P (Instr.build t (parts.map λp=>(p.1,ρ p.2)).toArray) w c val:=by
 unfold MO at h
 split at h
 ·rename_i fs _ _ _ ds _ ht
  obtain⟨i,u,hi,hu,hz,_,_,_,hzero⟩:=JH hT ht
  obtain⟨gs,hd,NJ⟩:=mY hT ht
  rw[c9]at h
  obtain⟨uH,h⟩:=h
  have uH:∀f∈gs.toList,0<P.cellsOf f.type:=λf hf=>by
   have:=List.all_eq_true.1 uH (f.offset,f.type,P.cellsOf f.type) (by rw[NJ];exact List.mem_map.2 ⟨f,hf,rfl⟩)
   exact lE this
  obtain⟨ou,hK,hr⟩:=ZF h
  refine⟨_,hK,λc w ρ mj=>?_⟩
  obtain⟨ff,h1,h2⟩:=hr c w ρ u.cells (JR hz c w) mj
  refine⟨.agg ff,?_,ff.toList,by simp,h2⟩
  have ZG:(gs.mapM λf=>do pure (f.offset,<-sizeOf f.type):Sem (Array (Nat×Nat))).run P w=.ok (gs.map λf=>(f.offset,P.cellsOf f.type)) w:=by
   have:=Z9j (P:=P) w gs.toList uH
   rw[<-bS (xs:=gs),List.mapM_toArray]
   simp only[Sem.run_map,this,Result.andThen_ok,bS]
   congr 1
   apply Array.ext'
   simp
  have DY:(λ(i:Nat)=>(gs.map λf=>(f.offset,P.cellsOf f.type))[i]?)=(λ(i:Nat)=>(fs[i]?).map λ(f:Nat×TypeId×Nat)=>(f.1,f.2.2)):=by
   funext i
   rw[NJ]
   simp
   cases gs[i]? <;>rfl
  unfold Instr.build
  simp only[Sem.run_bind,hzero,Result.andThen_ok,run_underlying hd,ZG]
  rw[DY]
  simp only[h1,Sem.run_pure]
 ·rename_i m e iR _ _ _ ds _ ht
  obtain⟨i,u,hi,hu,hz,_,_,_,hzero⟩:=JH hT ht
  have hk:=mY hT ht
  simp only at hk
  rw[c9]at h
  obtain⟨h0,h⟩:=h
  have h0:0<iR:=lE h0
  obtain⟨ou,hK,hr⟩:=ZF h
  refine⟨_,hK,λc w ρ mj=>?_⟩
  obtain⟨ff,h1,h2⟩:=hr c w ρ u.cells (JR hz c w) mj
  refine⟨.agg ff,?_,ff.toList,by simp,h2⟩
  unfold Instr.build
  simp only[Sem.run_bind,hzero,Result.andThen_ok,run_underlying hk.1,BE (hk.2▸h0),hk.2]
  simp only[h1,Sem.run_pure]
 ·exact h.elim
def U5(c:Ctx)(w:World)(row:Row)(arr:Array Value):Prop:=
 0<row.sz/\if row.box then∃e,row.es=.gen [e]/\e.length=row.sz/\arr.size=row.sz/\kU c w e arr 0 else iN c.I w row.es.l arr 0 row.sz
def US(P:Program)(x:Sem Value)(w:World)(c:Ctx)(k:Nat)(row:Row)(d:D):Prop:=
 ∃u arr,x.run P w=.ok u (w.alloc (.cells arr row.ty))/\U5 c w row arr/\(c.R k=none->Mem c w->Rep (c.add k row w.heap.size) (w.alloc (.cells arr row.ty)) d u)
theorem Zi8{c:Ctx}{w:World}:∀{ds:List D} {vs:List Value} {pre:List Value},jt c w ds vs->kU c w ds (pre++vs).toArray pre.length
 |[],_,_,_=>trivial
 |d::ds,[],_,h=>h.elim
 |d::ds,v::vs,pre,h=>by
  refine⟨⟨v,by simp,h.1⟩,?_⟩
  have:=Zi8 (pre:=pre++[v]) h.2
  simpa using this
theorem ZH{c:Ctx}{w:World}{t:TypeId}{sz:Nat}{ds:List D}{vs:Array Value}(h0:0<sz)(hl:ds.length=sz)(h:jt c w ds vs.toList):U5 c w ⟨true,t,sz,.gen [ds]⟩ vs:=by
 refine⟨h0,?_⟩
 simp only[if_true]
 refine⟨ds,rfl,hl,by rw[<-hl,h.length];simp,?_⟩
 have:=Zi8 (pre:=[]) h
 simpa using this
theorem ZI(P:Program)(t:TypeId)(v:Value)(w:World):(newVar t v).run P w=.ok ⟨w.heap.size,0,none⟩ (w.alloc (.cells v.cells t)):=rfl
theorem Zo3{P:Program}{T:fj}(hT:jF P T){t:TypeId}{k:TK}{sz b:Nat}{cs:List rm}{ds:List D}{e:Bool}(ht:T.get t=some ⟨k,sz,b,cs,some ds,e⟩)(h0:0<sz)(hl:ds.length=sz)(n:Nat)(c:Ctx)(w:World):
 US P (Instr.alloc t true (.tuple #[])) w c n ⟨true,t,sz,.gen [ds]⟩ (.ptr n 0 0):=by
 obtain⟨i,u,hi,hu,hz,_,_,_,hzero⟩:=JH hT ht
 refine⟨.pointer (some ⟨w.heap.size,0,none⟩),u.cells,?_,ZH h0 hl (JR hz c w),λ_ _=>?_⟩
 ·simp only[Instr.alloc,Sem.run_bind,hzero,Result.andThen_ok,ZI,Sem.run_pure]
 ·exact⟨_,(Ctx.jg _ _ _ _).1,by simp[Ctx.add],by simp[ai.len],by simp[(Ctx.jg _ _ _ _).2]⟩
theorem qaC{P:Program}{t:TypeId}{sz:Nat}{d:D}{v:Value}(h0:0<sz)(hv:d.isVal=true)(hl:d.cells.length=sz)(n:Nat)(c:Ctx)(w:World)(hr:Rep c w d v):
 US P (Instr.box t v) w c n ⟨true,t,sz,.gen [d.cells]⟩ (.ptr n 0 0):=by
 refine⟨.pointer (some ⟨w.heap.size,0,none⟩),v.cells,?_,ZH h0 hl (Rep.cells hv hr),λ_ _=>?_⟩
 ·simp only[Instr.box,Sem.run_bind,ZI,Result.andThen_ok,Sem.run_pure]
 ·exact⟨_,(Ctx.jg _ _ _ _).1,by simp[Ctx.add],by simp[ai.len],by simp[(Ctx.jg _ _ _ _).2]⟩
theorem ud{I:ag}{w:World}:∀{cs:List D} {arr:Array Value} {off:Nat},nT I w cs arr off↔ ∀j,j<cs.length->∃v,arr[off+j]?=some v/\fw I w (cs.getD j .dead) v
 |[],arr,off=>by simp[BU,Aw]
 |d ::cs,arr,off=>by
  simp only[BU,Aw,ud (cs:=cs)]
  constructor
  ·rintro⟨h1,h2⟩ j hj
   cases j with
   |zero=>simpa using h1
   |succ j=>
    have:=h2 j (by simpa using hj)
    rw[show off+1+j=off+(j+1) by omega]at this
    simpa using this
  ·intro h
   refine⟨by simpa using h 0 (by simp),λj hj=>?_⟩
   have:=h (j+1) (by simpa using hj)
   rw[show off+(j+1)=off+1+j by omega]at this
   simpa using this
theorem wA{I:ag}{w:World}:∀{es:List (List D)} {arr:Array Value} {off sz:Nat},iN I w es arr off sz↔ ∀i,i<es.length->(es.getD i []).length=sz/\nT I w (es.getD i []) arr (off+i*sz)
 |[],arr,off,sz=>by simp[pT,oq]
 |e ::es,arr,off,sz=>by
  simp only[pT,oq,wA (es:=es)]
  constructor
  ·rintro⟨h1,h2,h3⟩ i hi
   cases i with
   |zero=>simpa using⟨h1,h2⟩
   |succ i=>
    have:=h3 i (by simpa using hi)
    rw[show off+sz+i*sz=off+(i+1)*sz by rw[aW];omega]at this
    simpa using this
  ·intro h
   have h0:=h 0 (by simp)
   simp at h0
   refine⟨h0.1,h0.2,λi hi=>?_⟩
   have:=h (i+1) (by simpa using hi)
   rw[show off+(i+1)*sz=off+sz+i*sz by rw[aW];omega]at this
   simpa using this
theorem Z93{c:Ctx}{w:World}:∀{cs:List D} {arr:Array Value} {off:Nat},kU c w cs arr off↔ ∀j,j<cs.length->∃v,arr[off+j]?=some v/\cz c w (cs.getD j .dead) v
 |[],arr,off=>by simp[kU]
 |d ::cs,arr,off=>by
  simp only[kU,Z93 (cs:=cs)]
  constructor
  ·rintro⟨h1,h2⟩ j hj
   cases j with
   |zero=>simpa using h1
   |succ j=>
    have:=h2 j (by simpa using hj)
    rw[show off+1+j=off+(j+1) by omega]at this
    simpa using this
  ·intro h
   refine⟨by simpa using h 0 (by simp),λj hj=>?_⟩
   have:=h (j+1) (by simpa using hj)
   rw[show off+(j+1)=off+1+j by omega]at this
   simpa using this
theorem QN:∀{us vs:List Value} {off k:Nat},off+us.length<=vs.length->(pK vs off us)[k]?=if off<=k/\k<off+us.length then us[k-off]? else vs[k]?
 |[],vs,off,k,_=>by
  have:¬(off<=k/\k<off):=by omega
  simp[pK,this]
 |u ::us,vs,off,k,h=>by
  simp only[dH]at h
  unfold pK
  rw[QN (us:=us) (by simp;omega)]
  by_cases h1:off+1<=k/\k<off+1+us.length
  ·rw[if_pos h1,if_pos (by simp;omega)]
   rw[show k-off=(k-(off+1))+1 by omega]
   simp
  ·rw[if_neg h1]
   by_cases h2:k=off
   ·subst h2
    rw[if_pos (by simp)]
    simp only[gE,gG]
    rw[gH (by omega)]
   ·rw[if_neg (by simp;omega),gI (by omega)]
theorem U6:∀{us vs:List Value} {off:Nat},(pK vs off us).length=vs.length
 |[],_,_=>rfl
 |u::us,vs,off=>by unfold pK;rw[U6];simp
theorem HE:∀{us vs:List D} {off k:Nat},off+us.length<=vs.length->(lD vs off us)[k]?=if off<=k/\k<off+us.length then us[k-off]? else vs[k]?
 |[],vs,off,k,_=>by
  have:¬(off<=k/\k<off):=by omega
  simp[lD,this]
 |u ::us,vs,off,k,h=>by
  simp only[dH]at h
  unfold lD
  rw[HE (us:=us) (by simp;omega)]
  by_cases h1:off+1<=k/\k<off+1+us.length
  ·rw[if_pos h1,if_pos (by simp;omega)]
   rw[show k-off=(k-(off+1))+1 by omega]
   simp
  ·rw[if_neg h1]
   by_cases h2:k=off
   ·subst h2
    rw[if_pos (by simp)]
    simp only[gE,gG]
    rw[gH (by omega)]
   ·rw[if_neg (by simp;omega),gI (by omega)]
theorem cz.plain{c:Ctx}{w:World}{d:D}{v:Value}(hp:d.plain=true)(h:cz c w d v):fw c.I w d v:=by
 cases d<;>(try(simp[D.plain]at hp;done))
 case bool=>exact sB.2 h
 case int=>exact rV.2 h
 case str=>exact sC.2 h
 case iQ=>exact sD.2 h
 case du=>exact Q4.2 h
 case emp=>exact sE.2 (let⟨a,g,_⟩:=h;⟨a,g⟩)
 obtain⟨a,cap,hv,hc,gx⟩:=h
 refine tG.2 ⟨a,cap,hv,hc,?_⟩
 rcases gx with gx|⟨b,off,arr,ty,fz,ha,hI,hf,hh,hE⟩
 ·exact .inl gx
 ·exact .inr ⟨b,off,arr,ty,fz,ha,hI,hh,SX.2 hE⟩
theorem Qzk{c:Ctx}{w:World}{es:List (List D)}{arr:List Value}{sz i off:Nat}{xs:List D}{us:List Value}(h:iN c.I w es arr.toArray 0 sz)(hi:i<es.length)(QO:off+xs.length<=sz)
 (hx:jt c w xs us) (hp:xs.all D.plain=true) (ha:i*sz+sz<=arr.length):iN c.I w (es.set i (lD (es.getD i []) off xs)) (pK arr (i*sz+off) us).toArray 0 sz:=by
 have hlen:=hx.length
 rw[wA]at h⊢
 intro k hk
 have EP:k<es.length:=by simpa using hk
 obtain⟨h1,h2⟩:=h k EP
 rw[ud]at h2
 by_cases oc:k=i
 ·subst oc
  have he:(es.set k (lD (es.getD k []) off xs)).getD k []=lD (es.getD k []) off xs:=by simp[aK,EP]
  rw[he]
  refine⟨by rw[QL];exact h1,?_⟩
  rw[ud]
  intro j hj
  rw[QL,h1]at hj
  have hg:(lD (es.getD k []) off xs).getD j .dead=if off<=j/\j<off+xs.length then(xs.getD (j-off) .dead)else(es.getD k []).getD j .dead:=by
   simp only[aK]
   rw[HE (by simp only[aK]at h1;omega)]
   split<;>rfl
  have hv:(pK arr (k*sz+off) us).toArray[0+k*sz+j]?=if off<=j/\j<off+xs.length then us[j-off]? else arr[k*sz+j]? :=by
   simp only[aY,aX]
   rw[QN (by omega)]
   by_cases hc:off<=j/\j<off+xs.length
   ·rw[if_pos (by omega),if_pos hc];congr 1;omega
   ·rw[if_neg (by omega),if_neg hc]
  rw[hg,hv]
  split
  ·rename_i hc
   have QP:j-off<us.length:=by omega
   have ZG:(xs.getD (j-off) .dead).plain=true:=by
    have hm:xs.getD (j-off) .dead∈xs:=by
     simp only[aK,cG (show j-off<xs.length by omega),aG]
     exact fJ _
    exact List.all_eq_true.1 hp _ hm
   exact⟨us[j-off],cG QP,cz.plain ZG ((EC.1 hx).2 _ _ (cG QP))⟩
  ·obtain⟨v,JO,MI⟩:=h2 j (by rw[h1];exact hj)
   exact⟨v,by simpa using JO,MI⟩
 ·have he:(es.set i (lD (es.getD i []) off xs)).getD k []=es.getD k []:=by
   simp[aK,gI (Ne.symm oc)]
  rw[he]
  refine⟨h1,?_⟩
  rw[ud]
  intro j hj
  obtain⟨v,JO,MI⟩:=h2 j hj
  refine⟨v,?_,MI⟩
  simp only[aY,aX]at JO⊢
  rw[QN (by omega),if_neg]
  ·exact JO
  ·rw[h1]at hj
   rintro⟨g1,g2⟩
   rcases Nat.lt_or_gt_of_ne oc with cq|cq
   ·have:=aV sz (show k+1<=i by omega)
    rw[aW]at this
    omega
   ·have:=aV sz (show i+1<=k by omega)
    rw[aW]at this
    omega
theorem Z49{I:ag}{w:World}{es:List (List D)}{arr:Array Value}{sz i:Nat}(h:iN I w es arr 0 sz)(h0:0<sz)(hi:i<es.length):i*sz+sz<=arr.size:=by
 obtain⟨h1,h2⟩:=wA.1 h i hi
 obtain⟨v,hv,_⟩:=ud.1 h2 (sz-1) (by omega)
 have:=(Array.getElem?_eq_some_iff.1 hv).1
 omega
def Ctx.jI(c:Ctx)(r:Nat)(row:Row):Ctx:={c with R:=λs=>if s=r then some row else c.R s}
theorem SE(w:World)(g:Nat)(cs:Array Value):Fr (λb=>b=g) w (w.setRow g cs):=
 ⟨rfl,rfl,rfl,by simp[World.setRow],λb _ hb=>setRow_other w g b cs hb⟩
theorem Mem.write{c:Ctx}{w:World}(hm:Mem c w){r:Nat}{row aq:Row}{jG arr:Array Value}(hr:c.R r=some row)(hV:¬c.V r)(hh:w.heap[c.ρ r]?=some (.cells jG row.ty (0,0)))(fv:arr.size=jG.size)
 (h1:aq.box=row.box) (h2:aq.ty=row.ty) (h3:aq.sz=row.sz) (h4:aq.es.l.length=row.es.l.length):
 jq c w (c.jI r aq) (w.setRow (c.ρ r) arr)/\(U5 (c.jI r aq) (w.setRow (c.ρ r) arr) aq arr->Mem (c.jI r aq) (w.setRow (c.ρ r) arr)):=by
 have fg:(w.setRow (c.ρ r) arr).heap[c.ρ r]?=some (.cells arr row.ty (0,0)):=setRow_heap w _ _ _ _ _ hh
 have CW:∀s x,c.R s=some x->¬c.V s->s≠r->(w.setRow (c.ρ r) arr).heap[c.ρ s]?=w.heap[c.ρ s]? :=λs x hs hv gl=>setRow_other w _ _ _ (λe=>gl (hm.inj s r x row hs hr hv hV e))
 have hg:jq c w (c.jI r aq) (w.setRow (c.ρ r) arr):=by
  refine⟨rfl,aO _,λb hb=>⟨hb,setRow_other w _ _ _ (λe=>(hm.fk b hb).2 r row hr hV e.symm)⟩,λs x hs=>?_⟩
  by_cases e:s=r
  ·subst e
   rw[hr]at hs;cases hs
   exact⟨aq,by simp[Ctx.jI],h1,h2,h3,h4,rfl,Iff.rfl,λ_ a ha=>⟨arr,fg,by rw[hh]at ha;cases ha;exact fv⟩⟩
  ·exact⟨x,by simp[Ctx.jI,e,hs],rfl,rfl,rfl,rfl,rfl,Iff.rfl,λnv a ha=>⟨a,by rw[CW s x hs nv e];exact ha,rfl⟩⟩
 refine⟨hg,λhi=>⟨λs x hs=>?_,λs q x y hs hq v1 v2 he=>?_,λb hb=>?_,by show c.top<=(w.setRow _ _).heap.size;simpa[World.setRow]using hm.top,hm.kX.mono hg.I⟩⟩
 ·by_cases e:s=r
  ·subst e
   simp only[Ctx.jI,if_true,Option.some.injEq]at hs
   subst hs
   exact .inr ⟨hV,arr,by rw[h2];exact fg,hi.1,hi.2⟩
  ·have jn:c.R s=some x:=by simpa[Ctx.jI,e]using hs
   exact ue hg rfl Iff.rfl (λnv=>CW s x jn nv e) (hm.row s x jn)
 ·have jG:∀s x,(c.jI r aq).R s=some x->∃x',c.R s=some x':=λs x hs=>by
   by_cases e:s=r
   ·exact⟨row,by rw[e];exact hr⟩
   ·exact⟨x,by simpa[Ctx.jI,e]using hs⟩
  obtain⟨x',jL⟩:=jG s x hs
  obtain⟨y',Au⟩:=jG q y hq
  exact hm.inj s q x' y' jL Au v1 v2 he
 ·obtain⟨g1,g2⟩:=hm.fk b hb
  refine⟨by simpa[World.setRow]using g1,λs x hs hv=>?_⟩
  by_cases e:s=r
  ·subst e;exact g2 s row hr hV
  ·exact g2 s x (by simpa[Ctx.jI,e]using hs) hv
theorem Zk4{P:Program}{t:TypeId}{n:Nat}(hs:P.cellsOf t=n)(h0:0<n){w:World}{g o:Nat}{ty:TypeId}{cur:Array Value}(hg:w.heap[g]?=some (.cells cur ty (0,0))){v:Value}(hn:v.cells.size=n)(hr:o+n<=cur.size)(h1:∀u∈v.cells.toList,u.oneCell'=true):
 (Instr.storeAt t (.pointer (some ⟨g,o,none⟩)) v).run P w=.ok () (w.setRow g (pK cur.toList o v.cells.toList).toArray):=by
 have h:=run_storeCells_at (P:=P) g o ty v.cells.toList 0 cur w hg (by simp;omega) h1
 have gl:¬v.cells.size≠P.cellsOf t:=by omega
 simp only[Instr.storeAt,Instr.sureAddr,Sem.run_bind,Sem.run_pure,Result.andThen_ok,storeVar,BE (hs▸h0),Sem.run_ite,gl,if_false,h]
 congr 3
 apply gJ
 intro k
 rw[QN (by simp;omega)]
 simp only[bG,Array.length_toList]
 by_cases hc:o<=k/\k<o+v.cells.size
 ·rw[if_pos hc,fF,bB (by simp;omega),aZ (by simp;omega)]
  congr 1;simp;omega
 ·rw[if_neg hc]
  by_cases hk:k<o
  ·rw[fF,aZ (by simp;omega),List.getElem?_take_of_lt hk]
  ·rw[bB (by simp;omega),List.getElem?_drop]
   congr 1;simp;omega
theorem jt.one{c:Ctx}{w:World}:∀{ds:List D} {vs:List Value},jt c w ds vs->∀u∈vs,u.oneCell'=true
 |[],[],_,_,h=>by simp at h
 |d::ds,v::vs,h,u,hu=>by
  rcases List.mem_cons.1 hu with e|e
  ·subst e;exact cz.one h.1
  ·exact jt.one h.2 u e
theorem Zer{c:Ctx}{w:World}{e:List D}{arr:List Value}{off:Nat}{xs:List D}{us:List Value}(h:kU c w e arr.toArray 0)(QO:off+xs.length<=e.length)(he:e.length=arr.length)
 (hx:jt c w xs us):kU c w (lD e off xs) (pK arr off us).toArray 0:=by
 have hlen:=hx.length
 rw[Z93]at h⊢
 intro j hj
 rw[QL]at hj
 simp only[aK,aY,aX]at h⊢
 rw[HE QO,QN (by omega)]
 by_cases hc:off<=j/\j<off+xs.length
 ·rw[if_pos hc,if_pos (by omega)]
  have QP:j-off<us.length:=by omega
  exact⟨us[j-off],cG QP,(EC.1 hx).2 _ _ (cG QP)⟩
 ·rw[if_neg hc,if_neg (by omega)]
  exact h j hj
def tl(P:Program)(x:Sem Unit)(w:World)(c:Ctx)(R':Rows):Prop:=
 ∃r aq arr w',x.run P w=.ok () w'/\w'=w.setRow (c.ρ r) arr/\(∃row,c.R r=some row)/\¬c.V r/\jq c w (c.jI r aq) w'/\Mem (c.jI r aq) w'/\∀s,(c.jI r aq).R s=R'.getD s none
theorem Z8m{k:IntKind}{l:List Int}:∀{n j i:Nat},i<n->(HF k l j n)[i]?=some (.int k (l.getD (j+i) 0))
 |n+1,j,0,_=>by simp[HF]
 |n+1,j,i+1,h=>by
  have:=Z8m (k:=k) (l:=l) (n:=n) (j:=j+1) (i:=i) (by omega)
  rw[show j+1+i=j+(i+1) by omega]at this
  simpa[HF]using this
theorem ZJ{k:IntKind}{l:List Int}:∀{n j:Nat},(HF k l j n).length=n
 |0,_=>rfl
 |n+1,j=>by simp[HF,ZJ (n:=n)]
theorem Z8r{l:List Bool}:∀{n j i:Nat},i<n->(HG l j n)[i]?=some (.bool (l.getD (j+i) false))
 |n+1,j,0,_=>by simp[HG]
 |n+1,j,i+1,h=>by
  have:=Z8r (l:=l) (n:=n) (j:=j+1) (i:=i) (by omega)
  rw[show j+1+i=j+(i+1) by omega]at this
  simpa[HG]using this
theorem ZK{l:List Bool}:∀{n j:Nat},(HG l j n).length=n
 |0,_=>rfl
 |n+1,j=>by simp[HG,ZK (n:=n)]
theorem Z2p{e:List D}:∀{n off:Nat},(ints e off n).length=n
 |0,_=>rfl
 |n+1,off=>by simp[ints,Z2p (n:=n)]
theorem Qyl{e:List D}:∀{n off:Nat},(bz e off n).length=n
 |0,_=>rfl
 |n+1,off=>by simp[bz,Qyl (n:=n)]
theorem Wj{R:Rows}{r:Nat}{row aq:Row}(h:R.getD r none=some row)(s:Nat):(R.set r (some aq)).getD s none=if s=r then some aq else R.getD s none:=by
 have cq:r<R.length:=by
  by_cases hl:r<R.length
  ·exact hl
  ·rw[aK,aM (by omega)]at h;cases h
 by_cases e:s=r
 ·subst e
  simp[aK,cq]
 ·simp[aK,e,gI (Ne.symm e)]
theorem Zoa{P:Program}{t:TypeId}{n:Nat}(kB:P.cellsOf t=n)(h0:0<n){R:Rows}{r i off:Nat}{box:Bool}{ty:TypeId}{sz:Nat}{es ji:ai}{d:D}
 (hR:R.getD r none=some ⟨box,ty,sz,es⟩) (hv:d.isVal=true) (hn:d.cells.length=n) (hle:off+n<=sz) (hp:box=false->d.cells.all D.plain=true)
 {c:Ctx} {w:World} {v:Value} (hm:Mem c w) (hA:∀r,c.R r=R.getD r none) (hV:¬c.V r) (hi:i<es.l.length) (gx:ji.l=es.l.set i (lD (es.l.getD i []) off d.cells)) (w6:box=true->ji=.gen [lD (es.get i) off d.cells]) (hd:Rep c w d v):
 tl P (Instr.storeAt t (.pointer (some ⟨c.ρ r,i*sz+off,none⟩)) v) w c (R.set r (some ⟨box,ty,sz,ji⟩)):=by
 have g1:c.R r=some ⟨box,ty,sz,es⟩:=by rw[hA];exact hR
 have hx:=Rep.cells hv hd
 obtain⟨jG,ho,hs,hb⟩:=hm.real g1 hV
 have hvn:v.cells.size=n:=by rw[<-hn,hx.length];simp
 simp only at ho hs hb
 have fin:∀aq:Row,aq=⟨box,ty,sz,ji⟩->i*sz+off+n<=jG.size->
  (∀c' w',jq c w c' w'->if aq.box then∃e,aq.es=.gen [e]/\e.length=aq.sz/\(pK jG.toList (i*sz+off) v.cells.toList).toArray.size=aq.sz/\kU c' w' e (pK jG.toList (i*sz+off) v.cells.toList).toArray 0
   else iN c'.I w' aq.es.l (pK jG.toList (i*sz+off) v.cells.toList).toArray 0 aq.sz)->tl P (Instr.storeAt t (.pointer (some ⟨c.ρ r,i*sz+off,none⟩)) v) w c (R.set r (some aq)):=by
  intro aq cr fv fg
  have iu:=Zk4 (P:=P) kB h0 (o:=i*sz+off) ho hvn fv hx.one
  have PX:(pK jG.toList (i*sz+off) v.cells.toList).toArray.size=jG.size:=by simp[U6]
  have hw:=hm.write (aq:=aq) g1 hV ho PX (by rw[cr]) (by rw[cr]) (by rw[cr]) (by rw[cr];simp only[gx,List.length_set])
  refine⟨r,aq,_,_,iu,rfl,⟨_,g1⟩,hV,hw.1,hw.2 ⟨by rw[cr];exact hs,fg _ _ hw.1⟩,λs=>?_⟩
  rw[Wj hR]
  simp only[Ctx.jI]
  split
  ·rfl
  ·exact hA s
 cases box with
 |true=>
  simp only[if_true]at hb
  obtain⟨e,k1,k2,k3,k4⟩:=hb
  rw[k1]at hi gx w6
  have rU:i=0:=by simpa[ai.l]using hi
  subst rU
  simp only[cM,aX]at fin⊢
  refine fin _ rfl (by omega) λc' w' hg=>?_
  simp only[if_true]
  refine⟨lD e off d.cells,w6 rfl,by rw[QL];exact k2,by simp[U6,k3],Nw hg (Zer (by simpa using k4) (by omega) (by simp;omega) hx)⟩
 |false=>
  simp only[aN,if_false]at hb
  have kZ:=Z49 hb hs hi
  refine fin _ rfl (by omega) λc' w' hg=>?_
  simp only[aN,if_false]
  rw[gx]
  exact oh hg.I _ _ _ _ (Qzk (c:=c) (by simpa using hb) hi (by omega) hx (hp rfl) (by simpa using kZ))
theorem zaC{k:IntKind}{e:List D}{off len n:Nat}{v:Int}(h:Df k e off len=true)(hl:off+len<=e.length)(hn:n<len):
 lD e off (HF k ((ints e off len).set n v) 0 len)=lD e (off+n) [.int k v]:=by
 apply gJ
 intro j
 rw[HE (by rw[ZJ];omega),HE (by simp;omega)]
 simp only[ZJ,dH,dI]
 by_cases h1:off<=j/\j<off+len
 ·rw[if_pos h1,Z8m (by omega)]
  by_cases h2:j=off+n
  ·subst h2
   rw[if_pos (by omega)]
   simp[aK,Z2p,show off+n-off=n by omega,hn]
  ·rw[if_neg (by omega)]
   have hg:=UK (e:=e) (off:=off) (show j-off<len by omega)
   have hi:=D.ko (UM h (show j-off<len by omega))
   rw[show off+(j-off)=j by omega]at hg hi
   have hj:e[j]?=some e[j]:=cG (by omega)
   simp only[aK,hj,aG]at hg hi
   rw[hj]
   simp only[aK,aX]
   rw[gI (by omega)]
   rw[hg,<-hi]
 ·rw[if_neg h1,if_neg (by omega)]
theorem zam{e:List D}{off len n:Nat}{v:Bool}(h:Hy e off len=true)(hl:off+len<=e.length)(hn:n<len):
 lD e off (HG ((bz e off len).set n v) 0 len)=lD e (off+n) [.bool v]:=by
 apply gJ
 intro j
 rw[HE (by rw[ZK];omega),HE (by simp;omega)]
 simp only[ZK,dH,dI]
 by_cases h1:off<=j/\j<off+len
 ·rw[if_pos h1,Z8r (by omega)]
  by_cases h2:j=off+n
  ·subst h2
   rw[if_pos (by omega)]
   simp[aK,Qyl,show off+n-off=n by omega,hn]
  ·rw[if_neg (by omega)]
   have hg:=UL (e:=e) (off:=off) (show j-off<len by omega)
   have hi:=D.kp (UN h (show j-off<len by omega))
   rw[show off+(j-off)=j by omega]at hg hi
   have hj:e[j]?=some e[j]:=cG (by omega)
   simp only[aK,hj,aG]at hg hi
   rw[hj]
   simp only[aK,aX]
   rw[gI (by omega)]
   rw[hg,<-hi]
 ·rw[if_neg h1,if_neg (by omega)]
theorem Zoq{P:Program}{T:fj}(hT:jF P T){t:TypeId}{x d:D}{R:Rows}{K:D->Rows->Prop}(h:HH T t x d R K):
    ∃R',K .dead R'/\ ∀c w a v,Mem c w->(∀r,c.R r=R.getD r none)->Rep c w x a->Rep c w d v->tl P (Instr.storeAt t a v) w c R':=by
  unfold HH at h
  cases ht:T.get t with
  |none=>simp only[ht]at h
  | some ti =>
    simp only[ht]at h
    obtain⟨i0,rU,ET,_,Br,Av,_⟩:=DV (hT.get ht)
    have kB:P.cellsOf t=ti.size:=by simp [Program.cellsOf,rU,ET]
    cases x<;>simp only at h
    case ptr r i off=>
      cases hR:R.getD r none with
      |none=>simp only[hR]at h
      | some row=>
        obtain⟨box,ty,sz,es⟩:=row
        simp only[hR,c9,aE]at h
        obtain⟨⟨⟨⟨h0,hv⟩,hn⟩,hle⟩,h⟩:=h
        have h0:0<ti.size:=lE h0
        have hn:=bE hn
        have hle:=lE hle
        have go: ∀ji:ai,(box=false->d.cells.all D.plain=true)-> ∀c w a v,Mem c w->(∀r,c.R r=R.getD r none)->Rep c w (.ptr r i off) a->Rep c w d v->
            (∃row:Row,c.R r=some row/\row=⟨box,ty,sz,es⟩/\ ¬c.V r/\i<es.l.length)/\(ji.l=es.l.set i (lD (es.l.getD i []) off d.cells)->(box=true->ji= .gen [lD (es.get i) off d.cells])->tl P (Instr.storeAt t a v) w c (R.set r (some ⟨box,ty,sz,ji⟩))):=by
          intro ji hp c w a v hm hA ha hd
          obtain⟨row,g1,gV,g2,ha⟩:=ha
          have cr:row=⟨box,ty,sz,es⟩:=by rw[hA,hR]at g1;exact(Option.some.inj g1).symm
          subst cr
          subst ha
          exact⟨⟨_,g1,rfl,gV,g2⟩,λhe w6=>Zoa kB h0 hR hv hn hle hp hm hA gV g2 he w6 hd⟩
        cases box with
        | true=>
          simp only[D.fh,nm]at h
          refine⟨_,h,λc w a v hm hA ha hd=> ?_⟩
          obtain⟨⟨row,g1,cr,gV,g2⟩,hw⟩:=go (.gen [lD (es.get i) off d.cells]) (by simp) c w a v hm hA ha hd
          subst cr
          obtain⟨jG,ho,hs,hb⟩:=hm.real g1 gV
          simp only[if_true]at hb
          obtain⟨e,k1,k2,k3,k4⟩:=hb
          have jb:=ai.nn es (show i<es.len by simpa using g2)
          refine hw ?_ (λ_=>rfl)
          rw[<-jb,k1]
          rw[k1]at g2
          have rU:i=0:=by simpa [ai.l] using g2
          subst rU
          rfl
        | false=>
          simp only[nm]at h
          refine⟨_,h.2,λc w a v hm hA ha hd=> ?_⟩
          obtain⟨⟨row,g1,cr,gV,g2⟩,hw⟩:=go _ (λ_=>h.1) c w a v hm hA ha hd
          exact hw (by rw[ai.QQ,ai.nn es (show i<es.len by simpa using g2)]) (by simp)
    case pa r i off len k n=>
      cases hR:R.getD r none with
      |none=>simp only[hR]at h
      | some row=>
        obtain⟨box,ty,sz,es⟩:=row
        simp only[hR,c9,aE]at h
        obtain⟨⟨pq,hle⟩,h⟩:=h
        subst pq
        have hle:=lE hle
        have go: ∀(x:D) (xs:List D),x.isVal=true->x.cells=[x]->ti.size=1->(n<len->off+len<=(es.get i).length->lD (es.get i) off xs=lD (es.get i) (off+n) [x])-> ∀c w a v,Mem c w->(∀r,c.R r=R.getD r none)->Rep c w (.pa r i off len k n) a->Rep c w x v->
            tl P (Instr.storeAt t a v) w c (R.set r (some ⟨true,ty,sz, .gen [lD (es.get i) off xs]⟩)):=by
          intro x xs hv hc fv heq c w a v hm hA ha hd
          obtain⟨hn,row,g1,gV,g2,ha⟩:=ha
          have cr:row=⟨true,ty,sz,es⟩:=by rw[hA,hR]at g1;exact(Option.some.inj g1).symm
          subst cr
          subst ha
          obtain⟨jG,ho,hs,hb⟩:=hm.real g1 gV
          simp only[if_true]at hb
          obtain⟨e,k1,k2,k3,k4⟩:=hb
          simp only at g2
          have jb:=ai.nn es (show i<es.len by simpa using g2)
          have hlen:(es.get i).length=sz:=by
            rw[<-jb,k1]
            rw[k1]at g2
            have rU:i=0:=by simpa [ai.l] using g2
            subst rU
            exact k2
          refine Zoa (off:=off+n) kB (by omega) hR hv (by rw[hc,fv];rfl) (by omega) (by simp) hm hA gV g2 ?_ (λ_=>by rw[hc,heq hn (by omega)]) hd
          rw[jb,hc,heq hn (by omega)]
          rw[k1]at g2⊢
          have rU:i=0:=by simpa [ai.l] using g2
          subst rU
          rfl
        split at h
        . rename_i j k' k'' v hk
          simp only[decide_eq_true_eq,D.fh,nm]at h
          obtain⟨⟨⟨rfl,rfl⟩,iV⟩,h⟩:=h
          refine⟨_,h,λc w a u hm hA ha hd=>go (.int _ v) _ rfl rfl (UO (hT.get ht) (by rw[hk];simp [TK.isAgg])) (λhn hl=>zaC iV hl hn) c w a u hm hA ha hd⟩
        . rename_i v hk
          simp only[D.fh,nm]at h
          obtain⟨iV,h⟩:=h
          refine⟨_,h,λc w a u hm hA ha hd=>go (.bool v) _ rfl rfl (UO (hT.get ht) (by rw[hk];simp [TK.isAgg])) (λhn hl=>zam iV hl hn) c w a u hm hA ha hd⟩
        . exact h.elim
def sv:D->Value
 |.int k n=>.int k n
 |.bool b=>.bool b
 |.str s=>.string ⟨s.toArray⟩
 |_=>undef
def rh(xs:Array Value)(o:Nat)(az:List D):Prop:=∀j d,az[j]?=some d->xs[o+j]?=some (sv d)
theorem QR:∀{t u:List rm} {l:List D},fits (t++u) l=true->∃a b,l=a++b/\fits t a=true/\fits u b=true/\a.length=t.length
 |[],u,l,h=>⟨[],l,rfl,rfl,h,rfl⟩
 |c::t,u,[],h=>by cases c<;>simp[fits]at h
 |c ::t,u,d::l,h=>by
  cases c<;>simp only[cD,fits,aE,aN]at h
  all_goals
   obtain⟨a,b,h1,h2,h3,h4⟩:=QR h.2
   exact⟨d::a,b,by rw[h1];rfl,by simp[fits,h.1,h2],h3,by simp[h4]⟩
theorem te:∀{t:List rm} {l:List D},fits t l=true->l.length=t.length
 |[],[],_=>rfl
 |[],_::_,h=>by simp[fits]at h
 |c::t,[],h=>by cases c<;>simp[fits]at h
 |c::t,d::l,h=>by
  cases c<;>simp only[fits,aE,aN]at h
  all_goals simp[te h.2]
theorem ZL:∀{a b a' b':List D},a.length=b.length->eqs (a++a') (b++b')=(eqs a b&&eqs a' b')
 |[],[],_,_,_=>by simp[eqs]
 |x::a,y::b,a',b',h=>by
  simp only[cD,eqs]
  rw[ZL (by simpa using h),Bool.and_assoc]
theorem HA{P:Program}{t:TypeId}{d:TypeDesc}(hd:P.underlying t=some d)(ha:P8 d=false){xs:Array Value}{o:Nat}{v:Value}(hv:xs[o]?=some v)(w:World):(part t xs o).run P w=.ok v w:=by
 unfold part
 rw[Sem.run_bind,Zw hd,MG hd,ha,Result.andThen_ok]
 simp[hv]
theorem UT{P:Program}{t:TypeId}{d:TypeDesc}(hd:P.underlying t=some d)(ha:P8 d=true)(h0:0<P.cellsOf t)(xs:Array Value)(o:Nat)(w:World):
 (part t xs o).run P w=.ok (.agg (xs.extract o (o+P.cellsOf t))) w:=by
 unfold part
 rw[Sem.run_bind,Zw hd,MG hd,ha,Result.andThen_ok]
 simp only[if_true,Sem.run_bind,BE h0,Result.andThen_ok,Sem.run_pure]
theorem rh.extract{xs:Array Value}{o:Nat}{az:List D}{n:Nat}(h:rh xs o az)(hn:az.length<=n):rh (xs.extract o (o+n)) 0 az:=by
 intro j d hj
 have cq:=(List.getElem?_eq_some_iff.1 hj).1
 have:=h j d hj
 have hx:=(Array.getElem?_eq_some_iff.1 this).1
 simp only[aX,Array.getElem?_extract]
 rw[if_pos (by omega)]
 exact this
theorem rh.left{xs:Array Value}{o:Nat}{a b:List D}(h:rh xs o (a++b)):rh xs o a:=λj d hj=>h j d (by rw[aZ (List.getElem?_eq_some_iff.1 hj).1];exact hj)
theorem rh.right{xs:Array Value}{o:Nat}{a b:List D}(h:rh xs o (a++b)):rh xs (o+a.length) b:=λj d hj=>by
 rw[fZ];exact h (a.length+j) d (by rw[bB (by omega)];simpa using hj)
def oH(t:TypeId)(m:Nat)(xs ys:Array Value)(o:Nat):Sem Bool:=do
 let a<-part t xs o
 let b<-part t ys o
 Op.equalIn m t a b
theorem Z9w{P:Program}{n m:Nat}(ih:∀t,rK P n t=true->P.cellsOf t=(mi P n t).length->0<P.cellsOf t->∀(xs ys:Array Value) (o:Nat) (az bs:List D) (w:World),fits (mi P n t) az=true->fits (mi P n t) bs=true->rh xs o az->rh ys o bs->
 (oH t m xs ys o).run P w=.ok (eqs az bs) w):
 ∀ (fs:List Field) (o:Nat) (az bs:List D) (xs ys:Array Value) (w:World),UF P (rK P n) (λu=>(mi P n u).length) fs o=true->fits (fs.flatMap λf=>mi P n f.type) az=true->fits (fs.flatMap λf=>mi P n f.type) bs=true->
  rh xs o az->rh ys o bs->(Op.eqFields m xs ys fs).run P w=.ok (eqs az bs) w
 |[],o,az,bs,xs,ys,w,_,ha,hb,_,_=>by
  have h1:=te ha
  have h2:=te hb
  simp at h1 h2
  subst h1;subst h2
  simp[Op.eqFields,eqs]
 |f ::fs,o,az,bs,xs,ys,w,ho,ha,hb,sa,sb=>by
  simp only[UF,aE]at ho
  obtain⟨⟨⟨⟨⟨h1,h2⟩,h3⟩,h4⟩,h5⟩,h6⟩:=ho
  have h2:=bE h2
  have h3:=bE h3
  have h4:0<(mi P n f.type).length:=lE h4
  simp only[List.flatMap_cons]at ha hb
  obtain⟨a1,a2,rfl,ZM,ZN,la⟩:=QR ha
  obtain⟨b1,b2,rfl,ZO,ZP,lb⟩:=QR hb
  have jc:=ih f.type h5 h3 (by omega) xs ys o a1 b1 w ZM ZO sa.left sb.left
  have Ae:=Z9w ih fs (o+(mi P n f.type).length) a2 b2 xs ys w h6 ZN ZP (by rw[<-la];exact sa.right) (by rw[<-lb];exact sb.right)
  have gl:f.name≠ "_" :=by simpa using h1
  simp only[Op.eqFields,gl,ne_eq,not_false_eq_true,if_true,h2]
  unfold oH at jc
  rw[ZL (by omega)]
  rw[Sem.run_bind]at jc⊢
  cases hp:(part f.type xs o).run P w with
  |halt x w1=>rw[hp]at jc;simp at jc
  |ok a w1=>
   rw[hp]at jc
   simp only[Result.andThen_ok,Sem.run_bind]at jc⊢
   cases hq:(part f.type ys o).run P w1 with
   |halt x w2=>rw[hq]at jc;simp at jc
   |ok b w2=>
    rw[hq]at jc
    simp only[Result.andThen_ok]at jc⊢
    rw[jc]
    simp only[Result.andThen_ok]
    cases he:eqs a1 b1 with
    |true=>simpa[he]using Ae
    |false=>simp
theorem Zf5{P:Program}{n m:Nat}{e:TypeId}{k:Nat}(hk:P.cellsOf e=k)(hl:(mi P n e).length=k)(ih:∀(xs ys:Array Value) (o:Nat) (az bs:List D) (w:World),fits (mi P n e) az=true->fits (mi P n e) bs=true->rh xs o az->rh ys o bs->
 (oH e m xs ys o).run P w=.ok (eqs az bs) w):
 ∀ (len i:Nat) (az bs:List D) (xs ys:Array Value) (w:World),fits (cP len (mi P n e)).flatten az=true->fits (cP len (mi P n e)).flatten bs=true->rh xs (i*k) az->rh ys (i*k) bs->
  (do
   let r<-forIn (List.range' i len) ((none,()):Option Bool×Unit) λj _=>do
    let a<-part e xs (j*k)
    let b<-part e ys (j*k)
    let q<-Op.equalIn m e a b
    if(!q)=true then pure (ForInStep.done (some false,()))else pure (ForInStep.yield (none,()))
   match r.1 with
   |some a=>pure a
   |none=>pure true:Sem Bool).run P w=.ok (eqs az bs) w
 |0,i,az,bs,xs,ys,w,ha,hb,_,_=>by
  have h1:=te ha
  have h2:=te hb
  simp at h1 h2
  subst h1;subst h2
  simp[eqs]
 |len + 1,i,az,bs,xs,ys,w,ha,hb,sa,sb=>by
  simp only[List.replicate_succ,List.flatten_cons]at ha hb
  obtain⟨a1,a2,rfl,ZM,ZN,la⟩:=QR ha
  obtain⟨b1,b2,rfl,ZO,ZP,lb⟩:=QR hb
  have jc:=ih xs ys (i*k) a1 b1 w ZM ZO sa.left sb.left
  have Ae:=Zf5 hk hl ih len (i+1) a2 b2 xs ys w ZN ZP (by rw[aW];have:=sa.right;rwa [la,hl]at this) (by rw[aW];have:=sb.right;rwa [lb,hl]at this)
  unfold oH at jc
  rw[ZL (by omega)]
  simp only[List.range'_succ,List.forIn_cons,Sem.run_bind]at jc⊢
  cases hp:(part e xs (i*k)).run P w with
  |halt x w1=>rw[hp]at jc;simp at jc
  |ok a w1=>
   rw[hp]at jc
   simp only[Result.andThen_ok]at jc⊢
   cases hq:(part e ys (i*k)).run P w1 with
   |halt x w2=>rw[hq]at jc;simp at jc
   |ok b w2=>
    rw[hq]at jc
    simp only[Result.andThen_ok]at jc⊢
    rw[jc]
    simp only[Result.andThen_ok]
    cases he:eqs a1 b1 with
    |true=>
     simp only[Sem.run_bind]at Ae
     simpa[he]using Ae
    |false=>simp
theorem ZA{P:Program}:∀(n:Nat) (t:TypeId) (m:Nat),n<=m->rK P n t=true->P.cellsOf t=(mi P n t).length->0<P.cellsOf t->∀(xs ys:Array Value) (o:Nat) (az bs:List D) (w:World),
 fits (mi P n t) az=true->fits (mi P n t) bs=true->rh xs o az->rh ys o bs->(oH t m xs ys o).run P w=.ok (eqs az bs) w
 |0,t,m,_,h,_,_,_,_,_,_,_,_,_,_,_,_=>by simp[rK]at h
 |n+1,t,0,hm,_,_,_,_,_,_,_,_,_,_,_,_,_=>by omega
 |n + 1,t,m+1,hm,h,hc,h0,xs,ys,o,az,bs,w,ha,hb,sa,sb=>by
  unfold rK at h
  split at h
  ·rename_i k hd
   simp only[mi,hd]at ha hb
   have h1:=te ha;have h2:=te hb
   obtain⟨x,rfl⟩:=List.length_eq_one_iff.1 h1
   obtain⟨y,rfl⟩:=List.length_eq_one_iff.1 h2
   simp only[fits,gK]at ha hb
   have hx:=sa 0 x rfl;have hy:=sb 0 y rfl
   rw[D.ko ha]at hx⊢
   rw[D.ko hb]at hy⊢
   simp only[sv,bG]at hx hy
   simp only[oH,Sem.run_bind,HA hd rfl hx,HA hd rfl hy,Result.andThen_ok,run_equalIn_int w m t k k _ _ hd,eqs,Jz,gK]
  ·rename_i hd
   simp only[mi,hd]at ha hb
   have h1:=te ha;have h2:=te hb
   obtain⟨x,rfl⟩:=List.length_eq_one_iff.1 h1
   obtain⟨y,rfl⟩:=List.length_eq_one_iff.1 h2
   simp only[fits,gK]at ha hb
   have hx:=sa 0 x rfl;have hy:=sb 0 y rfl
   rw[D.kp ha]at hx⊢
   rw[D.kp hb]at hy⊢
   simp only[sv,bG]at hx hy
   simp only[oH,Sem.run_bind,HA hd rfl hx,HA hd rfl hy,Result.andThen_ok,run_equalIn_bool' w m t _ _ hd,eqs,Jz,gK]
  ·rename_i hd
   simp only[mi,hd]at ha hb
   have h1:=te ha;have h2:=te hb
   obtain⟨x,rfl⟩:=List.length_eq_one_iff.1 h1
   obtain⟨y,rfl⟩:=List.length_eq_one_iff.1 h2
   simp only[fits,gK]at ha hb
   have hx:=sa 0 x rfl;have hy:=sb 0 y rfl
   cases x<;>simp[D.isStr]at ha
   cases y<;>simp[D.isStr]at hb
   rename_i s u
   simp only[sv,bG]at hx hy
   simp only[oH,Sem.run_bind,HA hd rfl hx,HA hd rfl hy,Result.andThen_ok,run_equalIn_string w m t _ _ hd,eqs,Jz,gK,ByteArray.toList_mk]
   congr 1
   rw[eH];simp
  ·rename_i fs hd
   simp only[aE,Bool.not_eq_true']at h
   have hf:P.fieldsOf t=fs:=by simp[Program.fieldsOf,hd]
   have hl:=te ha
   have tF:=te hb
   simp only[mi,hd]at ha hb
   simp only[oH,Sem.run_bind,UT hd rfl h0,Result.andThen_ok]
   rw[run_equalIn_struct w m t _ _ (by rw[hf];exact hd) h.1,hf]
   refine Z9w (n:=n) (λu hu hcu h0u xs ys o az bs w=>ZA n u m (by omega) hu hcu h0u xs ys o az bs w) fs.toList 0 az bs _ _ w h.2 ha hb (sa.extract (by omega)) (sb.extract (by omega))
  ·rename_i len e hd
   simp only[aE]at h
   obtain⟨⟨h1,h2⟩,h3⟩:=h
   have h1:=bE h1
   have h2:0<P.cellsOf e:=lE h2
   have hl:=te ha
   have tF:=te hb
   simp only[mi,hd]at ha hb
   simp only[oH,Sem.run_bind,UT hd rfl h0,Result.andThen_ok]
   have:=Zf5 (P:=P) (n:=n) (m:=m) (e:=e) rfl h1.symm (λxs ys o az bs w=>ZA n e m (by omega) h3 h1 h2 xs ys o az bs w) len 0 az bs (xs.extract o (o+P.cellsOf t)) (ys.extract o (o+P.cellsOf t)) w ha hb
    (by rw[cM];exact sa.extract (by omega)) (by rw[cM];exact sb.extract (by omega))
   rw[<-this]
   simp only[Op.equalIn,Sem.run_bind,run_underlying hd,Result.andThen_ok,BE h2,Std.Legacy.Range.forIn_eq_forIn_range',Std.Legacy.Range.size,gD,Nat.add_sub_cancel,Nat.div_one]
   congr 1
   funext r w'
   obtain⟨f,u⟩:=r
   cases f<;>rfl
  ·cases h
theorem P1:∀{vs:List Value} {ds:List D},BD vs=some ds->ds.length=vs.length
 |[],ds,h=>by simp[BD]at h;subst h;rfl
 |v ::vs,ds,h=>by
  simp only[BD]at h
  split at h
  ·rename_i d l h1 h2
   simp at h;subst h
   simp[P1 h2]
  ·cases h
theorem Z9t{I:ag}{w:World}{z:List D}{zs:Array Value}{sz n m:Nat}(hz:z.length=sz)(hs:zs.size=sz)(hr:∀j v,zs[j]?=some v->fw I w (z.getD j .dead) v)(hm:n<=m):
 iN I w (cP n z) (madeCells zs (m*sz)) 0 sz:=by
 rw[wA]
 intro i hi
 have iJ:i<n:=by simpa using hi
 have he:(cP n z).getD i []=z:=by simp[aK,iJ]
 rw[he]
 refine⟨hz,?_⟩
 rw[ud]
 intro j hj
 have cq:i*sz+j<m*sz:=by
  have:=aV sz (show i+1<=m by omega)
  rw[aW]at this
  omega
 have ZQ:(i*sz+j)%sz=j:=by rw[Nat.add_comm,Nat.add_mul_mod_self_right,Nat.mod_eq_of_lt (by omega)]
 have hj':j<zs.size:=by omega
 refine⟨zs[j],?_,hr j _ (Array.getElem?_eq_getElem hj')⟩
 have hrg:(gL (m*sz))[i*sz+j]?=some (i*sz+j):=by rw[Array.getElem?_range,if_pos cq]
 simp only[madeCells,aX,Array.getElem?_map,hrg,Option.map_some,hs,ZQ]
 simp[hj']
theorem Zab{z:List D}{u:Value}(h:BD u.cells.toList=some z)(hp:z.all D.plain=true)(c:Ctx)(w:World):∀j v,u.cells[j]?=some v->fw c.I w (z.getD j .dead) v:=by
 intro j v hv
 have hr:=JR h c w
 have hl:=hr.length
 have h1:u.cells.toList[j]?=some v:=by simpa using hv
 have cq:j<z.length:=by rw[hl];exact(List.getElem?_eq_some_iff.1 h1).1
 refine cz.plain ?_ ((EC.1 hr).2 j v h1)
 have hm:z.getD j .dead∈z:=by
  simp only[aK,cG cq,aG]
  exact fJ _
 exact List.all_eq_true.1 hp _ hm
theorem Zj{c:Ctx}{w:World}{k:Nat}{e:TypeId}{sz cap:Nat}{es:ai}{arr:Array Value}(h1:es.l.length<=cap)(h2:cap<=maxLen)(h3:cap*sz=arr.size):
 Rep (c.add k ⟨false,e,sz,es⟩ w.heap.size) (w.alloc (.cells arr e)) (.all k) (.slice (some ⟨w.heap.size,0,none⟩) es.l.length cap):=by
 refine⟨_,(Ctx.jg _ _ _ _).1,rfl,.inr ⟨by simp[Ctx.add],cap,arr,?_,h1,h2,?_,h3⟩⟩
 ·rw[(Ctx.jg _ _ _ _).2]
 ·rw[(Ctx.jg _ _ _ _).2];exact UJ w _
theorem xt{P:Program}{T:fj}(hT:jF P T){t:TypeId}{kl kc:IntKind}{n m:Int}{R:Rows}{K:D->Rows->Prop}(h:uY T t n m R K):
 ∃row val,K val (R++[some row])/\∀c w,US P (Instr.makeSlice t (.int kl n) (.int kc m)) w c R.length row val:=by
 unfold uY at h
 split at h
 ·rename_i e _ _ _ _ _ _ ht
  have hk:=mY hT ht
  simp only at hk
  split at h
  ·rename_i kk sz lV cs z q he
   simp only[c9,aE,decide_eq_true_eq,Nx]at h
   obtain⟨⟨⟨⟨h0,hz⟩,hp⟩,g0,g1,g2,g3⟩,h⟩:=h
   have h0:0<sz:=lE h0
   have hz:=bE hz
   obtain⟨i,u,hi,hu,JG,hs,hb,hc,hzero⟩:=JH hT he
   refine⟨_,_,h,λc w=>?_⟩
   have hr:=run_make (P:=P) w t e i u hk.1 hi hu kl kc n m g0 g1 (by rw[hb];omega) g2
   rw[hs]at hr
   have w4:u.cells.size=sz:=by have:=P1 JG;simp at this;omega
   refine⟨_,_,hr,⟨h0,?_⟩,λ_ _=>?_⟩
   ·simp only[aN,if_false,ai.uZ]
    exact Z9t (n:=n.toNat) (m:=m.toNat) hz w4 (Zab JG hp c w) (by omega)
   ·have:=Zj (c:=c) (w:=w) (k:=R.length) (e:=e) (sz:=sz) (cap:=m.toNat) (es:=ai.F1 e n.toNat z) (arr:=madeCells u.cells (m.toNat*sz)) (by rw[ai.uZ];simp;omega) (by unfold maxLen;omega) (by simp[madeCells])
    rw[ai.uZ]at this
    simpa using this
  ·exact h.elim
 ·exact h.elim
theorem yt{c:Ctx}{w:World}{d:D}{v:Value}(h:cz c w d v):cz c w d.QS v:=by
 cases d with
 |sl sz es fr=>
  obtain⟨a,cap,hv,hc,h⟩:=h
  refine⟨a,cap,hv,hc,?_⟩
  rcases h with h|⟨b,off,arr,ty,fz,h1,h2,h3,h4⟩
  ·exact .inl h
  ·exact .inr ⟨b,off,arr,ty,fz,h1,h2,(λe=>by cases e),h4⟩
 |_=>exact h
theorem Z9n{c:Ctx}{w:World}:∀{ds:List D} {vs:List Value},jt c w ds vs->jt c w (HI ds) vs
 |[],[],_=>trivial
 |d::ds,v::vs,h=>⟨yt h.1,Z9n h.2⟩
 |[],_::_,h=>h.elim
 |_::_,[],h=>h.elim
theorem Zfz{n len:Nat}(h0:0<n){ev:Operand->D}:∀{parts:List (Nat×Operand)} {es:List (List D)} {K:List (List D)->Prop},es.length=len->HJ n len ev parts es K->
 ∃ ji,K ji/\ji.length=len/\∀c w (ρ:Operand->Value) (cells:Array Value),cells.size=len*n->iN c.I w es cells 0 n->(∀p∈parts,Rep c w (ev p.2) (ρ p.2))->
  ∃ff,Instr.fill (λi=>some (i*n,n)) cells (parts.map λp=>(p.1,ρ p.2))=some ff/\ff.size=len*n/\iN c.I w ji ff 0 n
 |[],es,K,hl,h=>⟨es,h,hl,λc w ρ cells hs he _=>⟨cells,rfl,hs,he⟩⟩
 |(i,x)::ps,es,K,hl,h=>by
  unfold HJ at h
  simp only[c9,aE]at h
  obtain⟨⟨⟨⟨hv,hp⟩,hn⟩,hi⟩,h⟩:=h
  have hn:=bE hn
  have hi:i<len:=lE hi
  obtain⟨ji,hK,tF,hr⟩:=Zfz h0 (by simpa using hl) h
  refine⟨ji,hK,tF,λc w ρ cells hs he mj=>?_⟩
  have hx:=Z9n (Rep.cells hv (mj (i,x) (by simp)))
  have hlen:(ρ x).cells.size=n:=by rw[<-hn,hx.length];simp
  have kZ:i*n+n<=cells.size:=by
   have:=aV n (show i+1<=len by omega)
   rw[aW]at this
   omega
  have hw:=Qzk (c:=c) (w:=w) (es:=es) (arr:=cells.toList) (off:=0) (i:=i) (by simpa using he) (by omega) (by omega) hx hp (by simpa using kZ)
  have QT:lD (es.getD i []) 0 (HI (ev x).cells)=HI (ev x).cells:=by
   have KE:=(wA.1 he i (by omega)).1
   apply gJ
   intro k
   rw[HE (by omega)]
   by_cases hk:k<(HI (ev x).cells).length
   ·rw[if_pos (by omega)];simp
   ·rw[if_neg (by omega),aM (by omega),aM (by omega)]
  rw[QT]at hw
  have kB:(pK cells.toList (i*n+0) (ρ x).cells.toList).toArray=(ρ x).cells.zipIdx.foldl (λcs (x:Value×Nat)=>cs.setIfInBounds (i*n+x.2) x.1) cells:=by
   rw[bG,<-Zev (ρ x) (i*n) cells]
  rw[kB]at hw
  obtain⟨ff,k1,k2,k3⟩:=hr c w ρ _ (by rw[<-kB];simp[U6,hs]) hw (λp hp=>mj p (by simp[hp]))
  refine⟨ff,?_,k2,k3⟩
  simp only[fS,Instr.fill]
  rw[if_neg (by simp;omega)]
  exact k1
theorem Z8w{n len:Nat}{ev:Operand->D}:∀{parts:List (Nat×Operand)} {es:List (List D)} {K:List (List D)->Prop},HJ n len ev parts es K->
 ∃ji,K ji/\∀(iv:Operand->D) (K2:List (List D)->Prop),(∀p∈parts,iv p.2=ev p.2)->K2 ji->HJ n len iv parts es K2
 |[],es,K,h=>⟨es,h,λiv K2 _ h2=>h2⟩
 |(i,x)::ps,es,K,h=>by
  unfold HJ at h
  simp only[c9]at h
  obtain⟨ji,h1,h2⟩:=Z8w h.2
  refine⟨ji,h1,λiv K2 he hk=>?_⟩
  unfold HJ
  rw[he (i,x) (by simp)]
  simp only[c9]
  exact⟨h.1,h2 iv K2 (λp hp=>he p (by simp[hp])) hk⟩
theorem Zj6{T:fj}{t:TypeId}{len:Nat}{parts:List (Nat×Operand)}{ev:Operand->D}{R:Rows}{K:D->Rows->Prop}(h:MP T t len parts ev R K):
 ∃val,K val R/\∀(iv:Operand->D) (R2:Rows),(∀p∈parts,iv p.2=ev p.2)->MP T t len parts iv R2 λd R'=>d=val/\R'=R2:=by
 unfold MP at h⊢
 split at h
 ·split at h
  ·simp only[c9]at h⊢
   obtain⟨h0,h⟩:=h
   obtain⟨ji,hK,hd⟩:=Z8w h
   cases len with
   |zero=>exact⟨_,hK,λiv R2 eu=>⟨h0,hd iv _ eu (by simp)⟩⟩
   |succ m=>exact⟨_,hK,λiv R2 eu=>⟨h0,hd iv _ eu (by simp)⟩⟩
  ·exact h.elim
 ·exact h.elim
theorem Zqj{P:Program}{T:fj}(hT:jF P T){t:TypeId}{len:Nat}{parts:List (Nat×Operand)}{ev:Operand->D}{R:Rows}{K:D->Rows->Prop}(h:MP T t len parts ev R K):
    ∃val,K val R/\ ∀c w (ρ:Operand->Value),c.base<=w.heap.size->(∀p∈parts,Rep c w (ev p.2) (ρ p.2))-> ∃u arr ty,(Instr.buildSlice t len (parts.map λp=>(p.1,ρ p.2)).toArray).run P w= .ok u (w.alloc (.cells arr ty))/\(Mem c w->Rep (c.fk w.heap.size) (w.alloc (.cells arr ty)) val u):=by
  unfold MP at h
  split at h
  . rename_i e _ _ _ _ _ _ ht
    have hk:=mY hT ht
    simp only at hk
    split at h
    . rename_i kk sz lV cs z q he
      simp only[c9,aE]at h
      obtain⟨⟨⟨⟨h0,hz⟩,hle⟩,hp⟩,h⟩:=h
      have h0:0<sz:=lE h0
      have hz:=bE hz
      have hle:=lE hle
      obtain⟨i,u,hi,hu,JG,hs,hb,hc,hzero⟩:=JH hT he
      obtain⟨ji,hK,tF,hr⟩:=Zfz h0 (by simp) h
      have w4:u.cells.size=sz:=by have:=P1 JG;simp at this;omega
      have main: ∀c w (ρ:Operand->Value),(∀p∈parts,Rep c w (ev p.2) (ρ p.2))-> ∃ff,(Instr.buildSlice t len (parts.map λp=>(p.1,ρ p.2)).toArray).run P w= .ok (.slice (some ⟨w.heap.size,0,none⟩) len len) (w.alloc (.cells ff e))/\iN c.I w ji ff 0 sz:=by
        intro c w ρ mj
        have KE:=Z9t (I:=c.I) (w:=w) hz w4 (Zab JG hp c w) (aO len)
        obtain⟨ff,k1,k2,k3⟩:=hr c w ρ (madeCells u.cells (len*sz)) (by simp [madeCells]) KE mj
        refine⟨ff,?_,k3⟩
        have ZR: ¬len*sz>2^24:=by omega
        have Fc:0<P.cellsOf e:=by omega
        unfold Instr.buildSlice
        simp only[Sem.run_bind,run_underlying hk.1,Result.andThen_ok,BE Fc,hc,Sem.run_ite,ZR,if_false,Sem.run_pure]
        by_cases Hp:len*sz=0
        . have od:Instr.fill (λi=>some (i*sz,sz)) ((gL (len*sz)).map λx=>(#[]:Array Value)[x%(#[]:Array Value).size]!) (parts.map λp=>(p.1,ρ p.2))=some ff:=by
            rw[<-k1];congr 1
            rw[Hp];simp [madeCells]
          simp only[Hp,if_true]at od⊢
          rw[od]
          simp only[newRow,Sem.run_bind,run_newObj,Result.andThen_ok,Sem.run_pure]
          rfl
        . simp only[Hp,if_false,hzero,Result.andThen_ok]
          rw[show Instr.fill (λi=>some (i*sz,sz)) ((gL (len*sz)).map λx=>u.cells[x%u.cells.size]!) (parts.map λp=>(p.1,ρ p.2))=some ff from k1]
          simp only[newRow,Sem.run_bind,run_newObj,Result.andThen_ok,Sem.run_pure]
          rfl
      cases len with
      | zero=>
        refine⟨_,hK,λc w ρ _ mj=> ?_⟩
        obtain⟨ff,h1,_⟩:=main c w ρ mj
        exact⟨_,ff,e,h1,λ_=>⟨_,rfl,λx hx=>by cases hx;exact Nat.lt_of_lt_of_le (Nat.lt_succ_self _) (Nat.le_max_right _ _)⟩⟩
      | succ m=>
        refine⟨_,hK,λc w ρ jo mj=> ?_⟩
        obtain⟨ff,h1,h2⟩:=main c w ρ mj
        refine⟨_,ff,e,h1,λhm=> ?_⟩
        refine⟨some ⟨w.heap.size,0,none⟩,m+1,by rw[ai.Dn,tF],by rw[ai.Dn,tF];exact aO _, .inr ⟨w.heap.size,0,ff,e,(0,0),rfl, .inr rfl,λ_=>jo,UJ w _,?_⟩⟩
        rw[ai.Dn]
        exact oh (UQ hm _).I _ _ _ _ h2
    . exact h.elim
  . exact h.elim

