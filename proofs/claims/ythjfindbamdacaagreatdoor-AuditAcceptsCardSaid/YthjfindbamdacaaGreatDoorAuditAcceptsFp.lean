import Derived.Test.YthjfindbamdacaaGreatDoorAuditAcceptsFm
import Derived.Lib.Strings
open Bool renaming eq_iff_iff->eI,false_eq_true->aN,and_true->gI
open Option renaming map_eq_some_iff->fP,getD_some->aG
open Nat renaming add_assoc->fX,succ_mul->aW,le_refl->aO,sub_zero->gB,sub_self->gC,zero_add->aX,mul_le_mul_right->aV,add_zero->bG,zero_mul->cM
open List renaming length_nil->dJ,map_cons->fQ,length_cons->dI,getElem?_cons_zero->gD,getElem?_set_self->gE,getElem?_set_ne->gG,getD->aK,getElem?_toArray->aY,getElem?_eq_getElem->cG,getElem_mem->fJ,ext_getElem?->gH,append_assoc->fG,getElem?_append_right->bB,getElem?_append_left->aZ,getElem?_eq_none->aM,cons_append->cD,replicate->cQ
open Array renaming toArray_toList->bS,range->gJ
set_option linter.all false
namespace Go.GD
open Go
variable {I:ag}{K:D->Rows->Prop}{P:Program}{R:Rows}{T:iM}{arr xs:Array Value}{b:Bool}{cap f i len n o off r sz:Nat}{cs:List tO}{d:TypeDesc}{ds e z:List D}{es:ak}{ev:Operand->D}{hi lo:Option Operand}{k k':IntKind}{op:BinOp}{row ao:Row}{s t ty:TypeId}{us:List Value}{v:Value}{w:World}{x y:Operand}{ρ:Operand->Value}
theorem Zkw(a b:List UInt8):(ByteArray.mk a.toArray)++(ByteArray.mk b.toArray)=ByteArray.mk (a++b).toArray:=by
 rw[ByteArray.ext_iff]
 simp
theorem Rep.int{c:Ctx}{n:Int}:Rep c w (.int k n) v↔v=.int k n:=Iff.rfl
theorem Rep.bool{c:Ctx}:Rep c w (.bool b) v↔v=.bool b:=Iff.rfl
theorem Rep.str{c:Ctx}{s:List UInt8}:Rep c w (.str s) v↔v=.string ⟨s.toArray⟩:=Iff.rfl
theorem Qtp{a b:Int}(w:World):(eqGuard op t x y (.int k a) (.int k' b)).run P w=.ok () w:=by
 cases op<;>rfl
theorem Zms{a b:ByteArray}(w:World):(eqGuard op t x y (.string a) (.string b)).run P w=.ok () w:=by
 cases op<;>rfl
theorem Z0w{a b:Bool}(w:World):(eqGuard op t x y (.bool a) (.bool b)).run P w=.ok () w:=by
 cases op<;>rfl
theorem qax{a b:Int}{K:D->Prop}(r8:op≠.shl/\op≠.shr)(h:Vo op k a b K):
 ∃d,K d/\∀w,∃u,(binOp op t (.int k a) (.int k b)).run P w=.ok u w/\∀c,Rep c w d u:=by
 cases op<;>simp only[Vo,db,decide_eq_true_eq]at h
 case add=>exact⟨_,h,λw=>⟨_,by simp only[binOp,ne_eq,not_true_eq_false,if_false,Op.intArith,Sem.run_pure];try rfl,λc=>rfl⟩⟩
 case sub=>exact⟨_,h,λw=>⟨_,by simp only[binOp,ne_eq,not_true_eq_false,if_false,Op.intArith,Sem.run_pure];try rfl,λc=>rfl⟩⟩
 case mul=>exact⟨_,h,λw=>⟨_,by simp only[binOp,ne_eq,not_true_eq_false,if_false,Op.intArith,Sem.run_pure];try rfl,λc=>rfl⟩⟩
 case quo=>exact⟨_,h.2,λw=>⟨_,by simp only[binOp,ne_eq,not_true_eq_false,if_false,Op.intDiv,h.1,Sem.run_pure];try rfl,λc=>rfl⟩⟩
 case rem=>exact⟨_,h.2,λw=>⟨_,by simp only[binOp,ne_eq,not_true_eq_false,if_false,Op.intDiv,h.1,Sem.run_pure];try rfl,λc=>rfl⟩⟩
 case and=>exact⟨_,h,λw=>⟨_,by simp only[binOp,ne_eq,not_true_eq_false,if_false,Op.intBits,Sem.run_pure];try rfl,λc=>rfl⟩⟩
 case or=>exact⟨_,h,λw=>⟨_,by simp only[binOp,ne_eq,not_true_eq_false,if_false,Op.intBits,Sem.run_pure];try rfl,λc=>rfl⟩⟩
 case xor=>exact⟨_,h,λw=>⟨_,by simp only[binOp,ne_eq,not_true_eq_false,if_false,Op.intBits,Sem.run_pure];try rfl,λc=>rfl⟩⟩
 case andNot=>exact⟨_,h,λw=>⟨_,by simp only[binOp,ne_eq,not_true_eq_false,if_false,Op.intBits,Sem.run_pure];try rfl,λc=>rfl⟩⟩
 case eql=>exact⟨_,h,λw=>⟨_,by simp only[binOp,ne_eq,not_true_eq_false,if_false,Op.intCmp,Sem.run_pure];try rfl,λc=>rfl⟩⟩
 case neq=>exact⟨_,h,λw=>⟨_,by simp only[binOp,ne_eq,not_true_eq_false,if_false,Op.intCmp,Sem.run_pure];try rfl,λc=>rfl⟩⟩
 case lss=>exact⟨_,h,λw=>⟨_,by simp only[binOp,ne_eq,not_true_eq_false,if_false,Op.intCmp,Sem.run_pure];try rfl,λc=>rfl⟩⟩
 case leq=>exact⟨_,h,λw=>⟨_,by simp only[binOp,ne_eq,not_true_eq_false,if_false,Op.intCmp,Sem.run_pure];try rfl,λc=>rfl⟩⟩
 case gtr=>exact⟨_,h,λw=>⟨_,by simp only[binOp,ne_eq,not_true_eq_false,if_false,Op.intCmp,Sem.run_pure];try rfl,λc=>rfl⟩⟩
 case geq=>exact⟨_,h,λw=>⟨_,by simp only[binOp,ne_eq,not_true_eq_false,if_false,Op.intCmp,Sem.run_pure];try rfl,λc=>rfl⟩⟩
theorem Zgv{a b:Int}(hb:0<=b)(w:World):
 (binOp .shl t (.int k a) (.int k' b)).run P w=.ok (.int k (ek k a b)) w/\(binOp .shr t (.int k a) (.int k' b)).run P w=.ok (.int k (bg k a b)) w:=by
 have:¬b<0:=by omega
 constructor<;>(simp only[binOp];simp[Op.shift,this,ek,bg])
theorem zax{a b:List UInt8}{K:D->Prop}
 (h:match op with
  |.add=>cv (decide (a.length+b.length<=maxLen)) (K (.str (a++b)))
  |.eql=>K (.bool (decide (a=b)))
  |.neq=>K (.bool (!decide (a=b)))
  |_=>False):
 ∃d,K d/\∀w,∃u,(binOp op t (.string ⟨a.toArray⟩) (.string ⟨b.toArray⟩)).run P w=.ok u w/\∀c,Rep c w d u:=by
 cases op<;>simp only[db,decide_eq_true_eq]at h
 case add=>
  refine⟨_,h.2,λw=>⟨_,?_,λc=>rfl⟩⟩
  have hl:¬(((a.toArray.size+b.toArray.size:Nat):Int)>IntKind.i64.max):=by
   have:=h.1
   unfold maxLen at this
   simp only[List.size_toArray,IntKind.max,IntKind.signed,IntKind.bits,if_true]
   omega
  simp only[binOp]
  simp only[Op.stringOp,ByteArray.size,hl,if_false,Sem.run_pure,Zkw]
 case eql=>
  refine⟨_,h,λw=>⟨_,?_,λc=>rfl⟩⟩
  simp only[binOp]
  simp only[Op.stringOp,Sem.run_pure,ByteArray.toList_mk,show(a==b)=decide (a=b) from by rw[eI];simp]
  try rfl
 case neq=>
  refine⟨_,h,λw=>⟨_,?_,λc=>rfl⟩⟩
  simp only[binOp]
  simp only[Op.stringOp,Sem.run_pure,ByteArray.toList_mk,show(a==b)=decide (a=b) from by rw[eI];simp]
  try rfl
def GA(P:Program)(x:Sem Value)(w:World)(c:Ctx)(d:D):Prop:=∃u,x.run P w=.ok u w/\Rep c w d u
theorem nf(hT:jD P T){k:TK}{a b:Nat}{z:Option (List D)}{e:Bool}(h:T.get t=some ⟨k,a,b,cs,z,e⟩):
 match k with
 |.int j=>P.underlying t=some (.int j)
 |.bool=>P.underlying t=some .bool
 |.string=>P.underlying t=some .string
 |.slice u n=>P.underlying t=some (.slice u)/\P.cellsOf u=n
 |.struct fs=>∃gs,P.underlying t=some (.struct gs)/\fs=gs.toList.map λf=>(f.offset,f.type,P.cellsOf f.type)
 |.array m u n=>P.underlying t=some (.array m u)/\P.cellsOf u=n
 |.other=>True:=by
 obtain⟨i,hi,hs,hb,hl,hk,_⟩:=Ea (hT.get h)
 simp only at hk
 unfold HL at hk
 split at hk<;>(subst hk;simp_all)
theorem xax(hT:jD P T){s d:TypeId}{x:D}{K:D->Prop}(h:MX T s d x K):
 ∃val,K val/\∀c w v,Rep c w x v->GA P (convert s d v) w c val:=by
 unfold MX at h
 split at h
 ·rename_i k1 _ _ _ _ _ k2 _ _ _ _ _ hs hd
  have h1:=nf hT hs
  have h2:=nf hT hd
  simp only at h1 h2
  cases x<;>simp only at h
  exact⟨_,h,λc w v hv=>⟨_,by rw[Rep.int.1 hv];simp only[convert,Sem.run_bind,run_underlying h1,run_underlying h2,Result.andThen_ok,Conv.intToInt,Sem.run_pure],rfl⟩⟩
 ·rename_i hs hd
  have h1:=nf hT hs
  have h2:=nf hT hd
  simp only at h1 h2
  cases x<;>simp only at h
  exact⟨_,h,λc w v hv=>⟨_,by rw[Rep.str.1 hv];simp only[convert,Sem.run_bind,run_underlying h1,run_underlying h2,Result.andThen_ok,Sem.run_pure],rfl⟩⟩
 ·exact h.elim
theorem Z0l(hT:jD P T){q:TypeId×Nat}(h:QZ T s f=some (o,q)):
 ∃fs fd,P.underlying s=some (.struct fs)/\fs[f]?=some fd/\fd.offset=o/\fd.type=q.1/\P.cellsOf fd.type=q.2:=by
 unfold QZ at h
 split at h
 ·rename_i fs _ _ _ _ _ ht
  obtain⟨i,hi,hs,hb,hl,hk,_⟩:=Ea (hT.get ht)
  simp only at hk
  unfold HL at hk
  split at hk<;>try(cases hk;done)
  rename_i gs hd
  simp only[TK.struct.injEq]at hk
  subst hk
  simp only[List.getElem?_map,fP,Prod.mk.injEq,Array.getElem?_toList]at h
  obtain⟨fd,h1,h2,h3⟩:=h
  exact⟨gs,fd,hd,h1,h2,by rw[<-h3],by rw[<-h3]⟩
 ·cases h
theorem Zfp(h:0<P.cellsOf t):∃i,P.info? t=some i:=by
 unfold Program.cellsOf at h
 cases hi:P.info? t with
 |none=>simp[hi]at h
 |some i=>exact⟨i,rfl⟩
theorem BL(h:0<P.cellsOf t)(w:World):(sizeOf t).run P w=.ok (P.cellsOf t) w:=by
 obtain⟨i,hi⟩:=Zfp h
 exact run_sizeOf w hi
theorem Z6g{fs:Array Field}{fd:Field}(hs:P.underlying s=some (.struct fs))(hf:fs[f]?=some fd)(h0:0<P.cellsOf fd.type)(b o:Nat)(w:World):
 (Instr.fieldAt s (.pointer (some ⟨b,o,none⟩)) f).run P w=.ok (.pointer (some ⟨b,o+fd.offset,none⟩)) w:=by
 have h1:¬P.cellsOf fd.type=0:=by omega
 simp only[Instr.fieldAt,Sem.run_bind,run_underlying hs,Result.andThen_ok,hf,Instr.sureAddr,Sem.run_pure,fieldPlace,BL h0,Sem.run_ite,h1,if_false,F4]
theorem Zs(hT:jD P T){x:D}{Vp:Bool}{n:Int}(h:Vq T t x Vp n R K):
 ∃val,K val R/\∀c w v,Mem c w->mV c R->Rep c w x v->GA P (Instr.indexAt t v (.int k n)) w c val:=by
 unfold Vq at h
 split at h
 ·rename_i e iP _ _ _ _ _ ht
  have hk:=nf hT ht
  simp only at hk
  obtain⟨hu,fy⟩:=hk
  have slc:∀(b o len cap:Nat) (w:World),0<iP->0<=n->n<len->(Instr.indexAt t (.slice (some ⟨b,o,none⟩) len cap) (.int k n)).run P w=.ok (.pointer (some ⟨b,o+n.toNat*iP,none⟩)) w:=by
   intro b o len cap w h0 h1 h2
   simp only[Instr.indexAt,asIntOf,Sem.run_bind,Sem.run_pure,Result.andThen_ok,run_underlying hu,Sem.run_ite,h1,h2,and_self,if_true,BL (fy▸h0),fy,F4]
  cases x<;>simp only[db,aE,decide_eq_true_eq,<-ak.iy]at h
  case sl sz es fr=>
   obtain⟨⟨⟨h1,h0⟩,h2,h3⟩,h⟩:=h
   have h1:=bE h1
   have h0:0<iP:=lE h0
   subst h1
   refine⟨_,h,λc w v hm hA hv=>?_⟩
   obtain⟨a,cap,hv,hc,iq⟩:=hv
   rcases iq with iq|⟨b,off,arr,ty,fz,ha,hI,hf,hh,hE⟩
   ·rw[iq]at h3;simp at h3;omega
   ·subst ha;subst hv
    refine⟨_,slc b off _ _ w h0 h2 h3,b,off,arr,ty,fz,by simp,hI,by omega,hh,hE⟩
  case all r=>
   split at h
   ·rename_i box ty sz es hR
    obtain⟨⟨⟨h1,h0⟩,h2,h3⟩,h⟩:=h
    have h1:=bE h1
    have h0:0<iP:=lE h0
    subst h1
    refine⟨_,h,λc w v hm hA hv=>?_⟩
    obtain⟨row,g1,g2,hv⟩:=hv
    have:=hA r row _ g1 hR
    subst this
    rcases hv with⟨hV,a,hv,_⟩|⟨hV,cap,arr,hv,g3,g4,g5,g6⟩
    ·have:=(hm.ov g1 hV).2.1
     simp only at this
     rw[this]at h3
     simp at h3;omega
    ·subst hv
     exact⟨_,slc _ 0 _ _ w h0 h2 h3,_,g1,hV,by simp only;omega,by simp⟩
   ·exact h.elim
  case own r o m=>
   split at h
   ·rename_i box ty sz es hR
    obtain⟨⟨⟨h1,h0⟩,h2,h3⟩,h⟩:=h
    have h1:=bE h1
    have h0:0<iP:=lE h0
    subst h1
    refine⟨_,h,λc w v hm hA hv=>?_⟩
    obtain⟨row,g1,g2,g5,hv⟩:=hv
    have:=hA r row _ g1 hR
    subst this
    simp only at*
    rcases hv with⟨g7,_⟩|⟨hV,cap,arr,g3,g4,g6,hv,g7⟩
    ·omega
    ·subst hv
     exact⟨_,slc _ _ _ _ w h0 h2 h3,_,g1,hV,by simp only;omega,by simp[Nat.add_mul]⟩
   ·exact h.elim
 ·rename_i len e iP _ _ _ _ _ ht
  have hk:=nf hT ht
  simp only at hk
  obtain⟨hu,fy⟩:=hk
  simp only[db,aE,decide_eq_true_eq]at h
  obtain⟨⟨h0,h2,h3⟩,h⟩:=h
  have h0:0<iP:=lE h0
  have Du:∀(b o:Nat) (w:World),(Instr.indexAt t (.pointer (some ⟨b,o,none⟩)) (.int k n)).run P w=.ok (.pointer (some ⟨b,o+n.toNat*iP,none⟩)) w:=by
   intro b o w
   simp only[Instr.indexAt,asIntOf,Sem.run_bind,Sem.run_pure,Result.andThen_ok,run_underlying hu,Instr.sureAddr,Sem.run_ite,h2,h3,and_self,if_true,BL (fy▸h0),fy,F4]
  cases x<;>simp only at h
  case ptr r i off=>
   have Aj:K (.ptr r i (off+n.toNat*iP)) R->∃val,K val R/\∀c w v,Mem c w->mV c R->Rep c w (.ptr r i off) v->GA P (Instr.indexAt t v (.int k n)) w c val:=λh=>
    ⟨_,h,λc w v hm hA hv=>by
     obtain⟨row,g1,gV,g2,hv⟩:=hv
     subst hv
     exact⟨_,Du _ _ w,row,g1,gV,g2,by simp[fX]⟩⟩
   have Ra:∀kk,Nat.beq iP 1=true->K (.pa r i off len kk n.toNat) R->∃val,K val R/\∀c w v,Mem c w->mV c R->Rep c w (.ptr r i off) v->GA P (Instr.indexAt t v (.int k n)) w c val:=λkk h1 h=>
    ⟨_,h,λc w v hm hA hv=>by
     obtain⟨row,g1,gV,g2,hv⟩:=hv
     have h1:=bE h1
     subst hv
     exact⟨_,Du _ _ w,by omega,row,g1,gV,g2,by simp[fX,h1]⟩⟩
   cases Vp with
   |true=>exact Aj h
   |false=>
    simp only at h
    split at h
    ·exact Ra _ h.1 h.2
    ·exact Ra _ h.1 h.2
    ·exact Aj h
  case iv sz es i off=>
   refine⟨_,h,λc w v hm hA hv=>?_⟩
   obtain⟨b,o,arr,ty,fz,hv,hI,hi,hh,hE⟩:=hv
   subst hv
   exact⟨_,Du _ _ w,b,o,arr,ty,fz,by simp[fX],hI,hi,hh,hE⟩
 ·exact h.elim
theorem qab{x:Option Operand}{n l:Int}{c:Ctx}(h:sx x ev n=some l)(hr:∀y,x=some y->Rep c w (ev y) (ρ y)):
 (x=none/\l=n)\/∃y k,x=some y/\ρ y=.int k l:=by
 cases x with
 |none=>simp[sx]at h;exact .inl ⟨rfl,h.symm⟩
 |some y=>
  simp only[sx]at h
  cases hd:ev y<;>simp only[hd]at h<;>try(cases h;done)
  have:=hr y rfl
  rw[hd]at this
  simp only[Option.some.injEq]at h
  subst h
  exact .inr ⟨y,_,rfl,Rep.int.1 this⟩
theorem Zbg{l h:Int}{c:Ctx}
 (hl:sx lo ev 0=some l) (hh:sx hi ev len=some h) (rO:∀y,lo=some y->Rep c w (ev y) (ρ y)) (Bo:∀y,hi=some y->Rep c w (ev y) (ρ y))
 (h0:0<=l) (h1:l<=h) (h2:h<=cap):(Instr.sliceBounds b len cap (lo.map ρ) (hi.map ρ) none).run P w=.ok (l.toNat,h.toNat,cap) w:=by
 have bound:∀(k:IntKind) (i:Int) (y:Nat) (code:BoundsCode),0<=i->i<=y->(Instr.sliceBound (.int k i) y code).run P w=.ok i.toNat w:=by
  intro k i y code a1 a2
  simp[Instr.sliceBound,asIntOf,a1,a2]
 rcases qab hh Bo with⟨rfl,rfl⟩|⟨y,k,rfl,hy⟩<;>rcases qab hl rO with⟨rfl,rfl⟩|⟨z,k',rfl,hz⟩
 ·simp[Instr.sliceBounds]
 ·simp[Instr.sliceBounds,hz,bound k' l len _ h0 h1]
 ·simp[Instr.sliceBounds,hy,bound k h cap _ (by omega) h2]
 ·simp[Instr.sliceBounds,hy,hz,bound k h cap _ (by omega) h2,bound k' l h.toNat _ h0 (by omega)]
theorem KS{I:ag}{w:World}:∀{es:List (List D)} {arr:Array Value} {off sz l:Nat},iK I w es arr off sz->iK I w (es.drop l) arr (off+l*sz) sz
 |es,arr,off,sz,0,h=>by simpa using h
 |[],arr,off,sz,l+1,h=>by simp[pY,oz]
 |e::es,arr,off,sz,l+1,h=>by
  simp only[pY,oz]at h
  have:=KS (l:=l) h.2.2
  rw[show off+(l+1)*sz=off+sz+l*sz by rw[aW];omega]
  simpa using this
theorem MI{I:ag}{w:World}:∀{es:List (List D)} {arr:Array Value} {off sz n:Nat},iK I w es arr off sz->iK I w (es.take n) arr off sz
 |es,arr,off,sz,0,h=>by simp[pY,oz]
 |[],arr,off,sz,n+1,h=>by simp[pY,oz]
 |e::es,arr,off,sz,n+1,h=>by
  simp only[pY,oz]at h
  simp only[List.take_succ_cons,pY,oz]
  exact⟨h.1,h.2.1,MI h.2.2⟩
theorem Zco(s:List UInt8)(l h:Nat):(ByteArray.mk s.toArray).extract l h=⟨((s.drop l).take (h-l)).toArray⟩:=by
 rw[Lib.extract_eq]
theorem Zkd:∀{e:List D} {off n:Nat},(ints e off n).length=n
 |_,_,0=>rfl
 |e,off,n+1=>by simp[ints,Zkd]
theorem Zbm{I:ag}{w:World}{k:IntKind}{e:List D}{arr:Array Value}{o:Nat}(h:nZ I w e arr o):∀{n off:Nat},off+n<=e.length->Dl k e off n=true->iK I w (ak.ints k (ints e off n)).l arr (o+off) 1
 |0,_,_,_=>pY.2 trivial
 |n+1,off,hl,ha=>by
  simp only[Dl,aE]at ha
  obtain⟨v,hv,hp⟩:=U5 h (j:=off) (by omega)
  rw[D.kj ha.1]at hp
  have r:=Zbm h (n:=n) (off:=off+1) (by omega) ha.2
  rw[show o+(off+1)=o+off+1 by omega]at r
  exact oz.2 ⟨rfl,AE.2 ⟨⟨v,hv,hp⟩,Cb.2 trivial⟩,r⟩
theorem vS(hT:jD P T){x:D}(h:MY T t x lo hi ev R K):
 ∃ val,K val R/\∀c w v (ρ:Operand->Value),Mem c w->mV c R->Rep c w x v->(∀y,lo=some y->Rep c w (ev y) (ρ y))->(∀y,hi=some y->Rep c w (ev y) (ρ y))->
  GA P (Instr.sliceAt t v (lo.map ρ) (hi.map ρ) none) w c val:=by
 unfold MY at h
 split at h
 ·rename_i ht
  have hu:=nf hT ht
  simp only at hu
  cases x<;>simp only at h
  case str s=>
   split at h
   ·rename_i l u hl hh
    try rw[<-ak.iy]at hh
    simp only[db,decide_eq_true_eq]at h
    obtain⟨⟨h0,h1,h2⟩,h⟩:=h
    refine⟨_,h,λc w v ρ hm hA hv rO Bo=>?_⟩
    rw[Rep.str.1 hv]
    refine⟨_,?_,rfl⟩
    have hb:=Zbg (P:=P) (b:=false) (len:=s.length) (cap:=s.length) hl hh rO Bo h0 h1 h2
    have fy:(ByteArray.mk s.toArray).size=s.length:=by simp[ByteArray.size]
    simp only[Instr.sliceAt,Sem.run_bind,run_underlying hu,Result.andThen_ok,Instr.slice,Option.isSome_none,aN,if_false,fy,hb,Sem.run_pure,Zco]
   ·exact h.elim
 ·rename_i e iP _ _ _ _ _ ht
  have hk:=nf hT ht
  simp only at hk
  obtain⟨hu,fy⟩:=hk
  have sl:∀(a:Option Addr) (len cap:Nat) (l u:Int) (c:Ctx) (w:World) (ρ:Operand->Value),0<iP->sx lo ev 0=some l->sx hi ev len=some u->(∀y,lo=some y->Rep c w (ev y) (ρ y))->(∀y,hi=some y->Rep c w (ev y) (ρ y))->
   0<=l->l<=u->u<=cap->(Instr.sliceAt t (.slice a len cap) (lo.map ρ) (hi.map ρ) none).run P w=.ok (.slice (if cap=l.toNat then a else a.map (·.add (l.toNat*iP))) (u.toNat-l.toNat) (cap-l.toNat)) w:=by
   intro a len cap l u c w ρ h0 hl hh rO Bo g0 g1 g2
   have hb:=Zbg (P:=P) (b:=true) (len:=len) (cap:=cap) hl hh rO Bo g0 g1 g2
   simp only[Instr.sliceAt,Sem.run_bind,run_underlying hu,Result.andThen_ok,Instr.slice,hb,BL (fy▸h0),fy,Sem.run_pure]
  cases x<;>simp only at h
  case sl sz es fr=>
   split at h
   ·rename_i l u hl hh
    try rw[<-ak.iy]at hh
    simp only[db,aE,decide_eq_true_eq,<-ak.iy]at h
    obtain⟨⟨⟨h1,h0⟩,g0,g1,g2⟩,h⟩:=h
    have h1:=bE h1
    have h0:0<iP:=lE h0
    subst h1
    refine⟨_,h,λc w v ρ hm hA hv rO Bo=>?_⟩
    obtain⟨a,cap,hv,hc,iq⟩:=hv
    subst hv
    refine⟨_,sl a _ cap l u c w ρ h0 hl hh rO Bo g0 g1 (by omega),?_⟩
    have hlen:((es.drop l.toNat).take (u.toNat-l.toNat)).l.length=u.toNat-l.toNat:=by rw[ak.je,ak.kC];simp only[List.length_take,List.length_drop];omega
    refine⟨_,cap-l.toNat,by rw[hlen],by omega,?_⟩
    rw[ak.je,ak.kC]
    by_cases hlu:l=u
    ·left
     subst hlu
     simp
    ·rcases iq with iq|⟨b,off,arr,ty,fz,ha,hI,hf,hh,hE⟩
     ·rw[iq]at g2;simp at g2;omega
     ·right
      subst ha
      refine⟨b,off+l.toNat*sz,arr,ty,fz,?_,hI,hf,hh,MI (KS hE)⟩
      rw[if_neg (by omega)]
      simp[F4]
   ·exact h.elim
  case all r=>
   split at h
   ·rename_i box ty sz es hR
    split at h
    ·rename_i l u hl hh
     try rw[<-ak.iy]at hh
     simp only[db,aE,decide_eq_true_eq,<-ak.iy]at h
     obtain⟨⟨⟨h1,h0⟩,g0,g1,g2⟩,h⟩:=h
     have h1:=bE h1
     have h0:0<iP:=lE h0
     subst h1
     refine⟨_,h,λc w v ρ hm hA hv rO Bo=>?_⟩
     obtain⟨row,k1,k2,hv⟩:=hv
     have:=hA r row _ k1 hR
     subst this
     rcases hv with⟨hV,a,hv,AQ⟩|⟨hV,cap,arr,hv,k3,k4,k5,k6⟩
     ·have he:=(hm.ov k1 hV).2.1
      simp only at he
      rw[he]at g2 hh
      simp at g2
      subst hv
      refine⟨_,sl a 0 0 l u c w ρ h0 hl hh rO Bo g0 g1 (by omega),_,k1,k2,by simp only[he,dJ];omega,.inl ⟨by omega,a,?_,.inl AQ⟩⟩
      rw[if_pos (by omega)]
      simp;omega
     subst hv
     simp only at*
     refine⟨_,sl _ _ cap l u c w ρ h0 hl hh rO Bo g0 g1 (by omega),_,k1,k2,by simp only;omega,?_⟩
     by_cases gl:cap=l.toNat
     ·left
      exact⟨by omega,some ⟨c.ρ r,0,none⟩,by rw[if_pos gl,show u.toNat-l.toNat=0 by omega,show cap-l.toNat=0 by omega],.inr ⟨hV,λx hx=>by cases hx;rfl⟩⟩
     ·right
      refine⟨hV,cap-l.toNat,arr,by omega,by omega,k5,by rw[if_neg gl];simp[F4],?_⟩
      rw[<-k6];congr 1;omega
    ·exact h.elim
   ·exact h.elim
  case own r o m=>
   split at h
   ·rename_i box ty sz es hR
    split at h
    ·rename_i l u hl hh
     try rw[<-ak.iy]at hh
     simp only[db,aE,decide_eq_true_eq,<-ak.iy]at h
     obtain⟨⟨⟨h1,h0⟩,g0,g1,g2⟩,h⟩:=h
     have h1:=bE h1
     have h0:0<iP:=lE h0
     subst h1
     refine⟨_,h,λc w v ρ hm hA hv rO Bo=>?_⟩
     obtain⟨row,k1,k2,k5,hv⟩:=hv
     have:=hA r row _ k1 hR
     subst this
     simp only at*
     rcases hv with⟨k7,a,hv,AQ⟩|⟨hV,cap,arr,k3,k4,k6,hv,k7⟩
     ·subst hv
      subst k7
      refine⟨_,sl a 0 0 l u c w ρ h0 hl hh rO Bo g0 g1 (by omega),_,k1,k2,by simp only;omega,.inl ⟨by omega,a,?_,AQ⟩⟩
      rw[if_pos (by omega)]
      simp;omega
     ·subst hv
      refine⟨_,sl _ _ cap l u c w ρ h0 hl hh rO Bo g0 g1 (by omega),_,k1,k2,by simp only;omega,?_⟩
      by_cases gl:cap=l.toNat
      ·left
       exact⟨by omega,some ⟨c.ρ r,o*sz,none⟩,by rw[if_pos gl,show u.toNat-l.toNat=0 by omega,show cap-l.toNat=0 by omega],.inr ⟨hV,λx hx=>by cases hx;rfl⟩⟩
      ·right
       refine⟨hV,cap-l.toNat,arr,by omega,by omega,k6,by rw[if_neg gl];simp[F4,Nat.add_mul],?_⟩
       simp only
       rw[<-k7];congr 1;omega
    ·exact h.elim
   ·exact h.elim
 ·rename_i len e iP _ _ _ _ _ ht
  have hk:=nf hT ht
  simp only at hk
  obtain⟨hu,fy⟩:=hk
  cases x
  case iv sz es i off=>
   split at h
   ·rename_i heq
    cases heq
    split at h
    ·rename_i k _ _ _ _ _ he
     simp only[db,aE]at h
     obtain⟨⟨h1,h2,h3⟩,h⟩:=h
     have h1:=bE h1
     have h2:=lE h2
     subst h1
     refine⟨_,h,λc w v ρ hm hA hv _ _=>?_⟩
     obtain⟨b,o,arr,ty,fz,hv,hI,hi,hh,hE⟩:=hv
     subst hv
     obtain⟨q1,q2⟩:=U6 hE hi
     rw[ak.nz es (by rw[<-ak.iy];exact hi)]at q1 q2
     have hlen:(ak.ints k (ints (es.get i) off len)).l.length=len:=by simp[ak.l,Zkd]
     refine⟨.slice (some (if len=0 then⟨b,o+i*sz+off,none⟩else Addr.add ⟨b,o+i*sz+off,none⟩ (0*1))) len len,?_,⟨_,len,by rw[hlen],by rw[hlen];exact aO _,.inr ⟨b,o+i*sz+off,arr,ty,fz,?_,hI,(λhf=>by cases hf),hh,Zbm q2 (by omega) h3⟩⟩⟩
     ·simp only[Instr.sliceAt,Instr.sureAddr,Instr.sliceBounds,Sem.run_bind,run_underlying hu,Result.andThen_ok,Sem.run_pure,BL (fy▸Nat.zero_lt_one),fy,Option.map_none,gB]
     ·congr 1
      split
      ·rfl
      ·simp[F4]
    ·exact h.elim
   ·exact h.elim
  all_goals exact h.elim
 ·exact h.elim
theorem qaQ(hT:jD P T){t t':TypeId}{x:D}(h:tu T t x R K):
 ∃val,K val R/\∀c w v,Mem c w->mV c R->Rep c w x v->GA P (Builtin.len_ #[t] t' #[v]) w c val:=by
 unfold tu at h
 split at h
 ·rename_i ht
  have hu:=nf hT ht
  simp only at hu
  cases x<;>simp only at h
  rename_i s
  refine⟨_,h,λc w v hm hA hv=>⟨_,?_,rfl⟩⟩
  rw[Rep.str.1 hv]
  have fy:(ByteArray.mk s.toArray).size=s.length:=by simp[ByteArray.size]
  have h0:(#[t]:Array TypeId)[0]?=some t:=rfl
  have h1:(#[Value.string ⟨s.toArray⟩]:Array Value)[0]?=some (Value.string ⟨s.toArray⟩):=rfl
  unfold Builtin.len_
  simp only[h0,h1,Sem.run_bind,run_underlying hu,Result.andThen_ok,goInt,fy,Sem.run_pure]
 ·rename_i e iP _ _ _ _ _ ht
  have hk:=nf hT ht
  simp only at hk
  obtain⟨hu,fy⟩:=hk
  have ln:∀(a:Option Addr) (n cap:Nat) (w:World),(Builtin.len_ #[t] t' #[.slice a n cap]).run P w=.ok (.int .i64 n) w:=by
   intro a n cap w
   simp[Builtin.len_,run_underlying hu,goInt]
  cases x<;>simp only at h
  case dx=>exact⟨_,h,λc w v hm hA hv=>⟨_,by rw[show v=_ from hv];exact ln _ _ _ w,rfl⟩⟩
  case emp=>exact⟨_,h,λc w v hm hA hv=>by obtain⟨a,hv,_⟩:=hv;subst hv;exact⟨_,ln _ _ _ w,rfl⟩⟩
  case sl sz es fr=>
   refine⟨_,h,λc w v hm hA hv=>?_⟩
   obtain⟨a,cap,hv,_⟩:=hv
   subst hv
   exact⟨_,ln _ _ _ w,by rw[ak.iy];rfl⟩
  case all r=>
   split at h
   ·rename_i box ty sz es hR
    refine⟨_,h,λc w v hm hA hv=>?_⟩
    obtain⟨row,k1,k2,hv⟩:=hv
    have:=hA r row _ k1 hR
    subst this
    rcases hv with⟨hV,a,hv,_⟩|⟨hV,cap,arr,hv,k3,k4,k5,k6⟩
    ·have he:=(hm.ov k1 hV).2.1
     simp only at he
     subst hv
     refine⟨_,ln _ _ _ w,?_⟩
     rw[<-ak.iy,he];rfl
    ·subst hv
     exact⟨_,ln _ _ _ w,by simp only[ak.iy];rfl⟩
   ·exact h.elim
  case own r o m=>
   refine⟨_,h,λc w v hm hA hv=>?_⟩
   obtain⟨row,k1,k2,k5,hv⟩:=hv
   rcases hv with⟨h0,a,hv,_⟩|⟨hV,cap,arr,k3,k4,k6,hv,k7⟩
   ·subst hv;subst h0;exact⟨_,ln _ _ _ w,rfl⟩
   ·subst hv;exact⟨_,ln _ _ _ w,rfl⟩
 ·exact h.elim
theorem jq.set{c:Ctx}{w:World}:∀{ds:List D} {vs:List Value} {d:D} {v:Value} (i:Nat),jq c w ds vs->cz c w d v->jq c w (ds.set i d) (vs.set i v)
 |[],[],_,_,_,h,_=>by simpa using h
 |[],_::_,_,_,_,h,_=>h.elim
 |_::_,[],_,_,_,h,_=>h.elim
 |a::ds,b::vs,d,v,0,h,hd=>⟨hd,h.2⟩
 |a::ds,b::vs,d,v,i+1,h,hd=>⟨h.1,jq.set i h.2 hd⟩
theorem jq.length{c:Ctx}{vs:List Value}(h:jq c w ds vs):ds.length=vs.length:=(EL.1 h).1
theorem Rep.cells{c:Ctx}{d:D}(hd:d.isVal=true)(h:Rep c w d v):jq c w d.cells v.cells.toList:=by
 have one:∀d':D,cz c w d' v->jq c w [d'] v.cells.toList:=λd' h'=>by
  have h1:=h'.one
  have:v.cells= #[v]:=by cases v<;>first|rfl|(simp[Value.oneCell']at h1)
  rw[this]
  exact⟨h',trivial⟩
 cases d with
 |agg cs=>
  obtain⟨vs,hv,hr⟩:=h
  subst hv
  simpa[Value.cells,D.cells]using hr
 |dt ds=>simp[D.isVal]at hd
 |dead=>simp[D.isVal]at hd
 |_=>exact one _ h
theorem Rb:∀{xs:List D} {ds:List D} {off:Nat},(lD ds off xs).length=ds.length
 |[],_,_=>rfl
 |x::xs,ds,off=>by unfold lD;rw[Rb];simp
def pP:List Value->Nat->List Value->List Value
 |e,_,[]=>e
 |e,off,v::vs=>pP (e.set off v) (off+1) vs
theorem Z0s{c:Ctx}{w:World}:∀{xs:List D} {us:List Value} {ds:List D} {vs:List Value} {off:Nat},jq c w ds vs->jq c w xs us->jq c w (lD ds off xs) (pP vs off us)
 |[],[],_,_,_,h,_=>h
 |[],_::_,_,_,_,_,h=>h.elim
 |_::_,[],_,_,_,_,h=>h.elim
 |x::xs,u::us,ds,vs,off,h,hx=>by unfold lD pP;exact Z0s (h.set off hx.1) hx.2
theorem Qt1:∀(us:List Value) (k off:Nat) (cells:Array Value),
 ((us.zipIdx k).foldl (λcs (x:Value×Nat)=>cs.setIfInBounds (off+x.2) x.1) cells).toList=pP cells.toList (off+k) us
 |[],_,_,_=>by simp[pP]
 |u::us,k,off,cells=>by
  simp only[List.zipIdx_cons,List.foldl_cons,pP]
  rw[Qt1 us (k+1) off]
  simp[Array.toList_setIfInBounds,fX]
theorem Zl(v:Value)(off:Nat)(cells:Array Value):
 (v.cells.zipIdx.foldl (λcs (x:Value×Nat)=>cs.setIfInBounds (off+x.2) x.1) cells).toList=pP cells.toList off v.cells.toList:=by
 rw[<-Array.foldl_toList,Array.toList_zipIdx]
 exact Qt1 v.cells.toList 0 off cells
theorem Z3m{place:Nat->Option (Nat×Nat)}{ev:Operand->D}:∀{parts:List (Nat×Operand)} {ds:List D} {K:List D->Prop},Gh place ev parts ds K->
 ∃ oB,K oB/\∀c w (ρ:Operand->Value) (cells:Array Value),jq c w ds cells.toList->(∀p∈parts,Rep c w (ev p.2) (ρ p.2))->
  ∃fj,Instr.fill place cells (parts.map λp=>(p.1,ρ p.2))=some fj/\jq c w oB fj.toList
 |[],ds,K,h=>⟨ds,D.fp.1 h,λc w ρ cells hr _=>⟨cells,rfl,hr⟩⟩
 |(i,x)::ps,ds,K,h=>by
  unfold Gh at h
  split at h
  ·rename_i off n hp
   simp only[db,aE]at h
   obtain⟨⟨⟨hv,hn⟩,hle⟩,h⟩:=h
   have hn:=bE hn
   have hle:=lE hle
   obtain⟨oB,hK,hr⟩:=Z3m h
   refine⟨oB,hK,λc w ρ cells hc mr=>?_⟩
   have hx:=Rep.cells hv (mr (i,x) (by simp))
   have hlen:(ρ x).cells.size=n:=by rw[<-hn,hx.length];simp
   have fy:cells.size=ds.length:=by rw[hc.length];simp
   have fk:jq c w (lD ds off (ev x).cells) ((ρ x).cells.zipIdx.foldl (λcs (x:Value×Nat)=>cs.setIfInBounds (off+x.2) x.1) cells).toList:=by
    rw[Zl];exact Z0s hc hx
   obtain⟨fj,h1,h2⟩:=hr c w ρ _ fk (λp hp=>mr p (by simp[hp]))
   refine⟨fj,?_,h2⟩
   simp only[fQ,Instr.fill,hp]
   rw[if_neg (by simp;omega)]
   exact h1
  ·exact h.elim
theorem Zb5{d:D}(h:Rc v=some d)(c:Ctx)(w:World):cz c w d v:=by
 cases v<;>simp only[Rc]at h<;>first|(cases h;done)|skip
 case nilIface=>simp at h;subst h;rfl
 case nilFunc=>simp at h;subst h;rfl
 case bool b=>simp at h;subst h;rfl
 case int k n=>simp at h;subst h;rfl
 case string s=>simp at h;subst h;simp[cz]
 case pointer a=>cases a<;>simp at h;subst h;rfl
 case slice a n cp=>
  split at h
  all_goals first|(simp at h;subst h;simp_all [cz];done)|(simp_all;done)
theorem J8:∀{vs:List Value} {ds:List D},BK vs=some ds->∀(c:Ctx) (w:World),jq c w ds vs
 |[],ds,h,c,w=>by simp[BK]at h;subst h;trivial
 |v ::vs,ds,h,c,w=>by
  simp only[BK]at h
  split at h
  ·rename_i d l h1 h2
   simp at h;subst h
   exact⟨Zb5 h1 c w,J8 h2 c w⟩
  ·cases h
theorem Nz{d:D}(h:Gy v=some d)(c:Ctx)(w:World):Rep c w d v:=by
 have one:Rc v=some d->Rep c w d v:=λh=>by
  have:=Zb5 h c w
  cases d<;>first|exact this|trivial|exact this.elim
 cases v with
 |agg cs=>
  simp only[Gy,fP]at h
  obtain⟨ds,h1,h2⟩:=h
  subst h2
  exact⟨cs.toList,by simp,J8 h1 c w⟩
 |_=>exact one h
theorem JY(hT:jD P T){k:TK}{a b:Nat}{e:Bool}(h:T.get t=some ⟨k,a,b,cs,some z,e⟩):
 ∃i u,P.info? t=some i/\i.zero=some u/\BK u.cells.toList=some z/\i.size=a/\i.bytes=b/\P.cellsOf t=a/\∀w,(zeroValue t).run P w=.ok u w:=by
 obtain⟨i,hi,hs,hb,hl,hk,hz,_⟩:=Ea (hT.get h)
 simp only at hz hs hb
 have hz:=hz.symm
 simp only[Option.bind_eq_some_iff]at hz
 obtain⟨u,hu,hz⟩:=hz
 refine⟨i,u,hi,hu,hz,hs,hb,by simp[Program.cellsOf,hi,hs],λw=>?_⟩
 simp[zeroValue,typeInfo,hi,hu]
theorem Zae{P:Program}(w:World):∀(fs:List Field),(∀f∈fs,0<P.cellsOf f.type)->
 (fs.mapM λf=>do pure (f.offset,<-sizeOf f.type):Sem (List (Nat×Nat))).run P w=.ok (fs.map λf=>(f.offset,P.cellsOf f.type)) w
 |[],_=>rfl
 |f::fs,h=>by
  simp only[List.mapM_cons,Sem.run_bind,BL (h f (by simp)),Result.andThen_ok,Sem.run_pure,Zae w fs (λg hg=>h g (by simp[hg])),fQ]
theorem qT(hT:jD P T){parts:List (Nat×Operand)}(h:MZ T t parts ev R K):
 ∃val,K val R/\∀c w (ρ:Operand->Value),(∀p∈parts,Rep c w (ev p.2) (ρ p.2))->GA P (Instr.build t (parts.map λp=>(p.1,ρ p.2)).toArray) w c val:=by
 unfold MZ at h
 split at h
 ·rename_i fs _ _ _ ds _ ht
  obtain⟨i,u,hi,hu,hz,_,_,_,hzero⟩:=JY hT ht
  obtain⟨gs,hd,NV⟩:=nf hT ht
  rw[db]at h
  obtain⟨uP,h⟩:=h
  have uP:∀f∈gs.toList,0<P.cellsOf f.type:=λf hf=>by
   have:=List.all_eq_true.1 uP (f.offset,f.type,P.cellsOf f.type) (by rw[NV];exact List.mem_map.2 ⟨f,hf,rfl⟩)
   exact lE this
  obtain⟨oB,hK,hr⟩:=Z3m h
  refine⟨_,hK,λc w ρ mr=>?_⟩
  obtain⟨fj,h1,h2⟩:=hr c w ρ u.cells (J8 hz c w) mr
  refine⟨.agg fj,?_,fj.toList,by simp,h2⟩
  have hpl:(gs.mapM λf=>do pure (f.offset,<-sizeOf f.type):Sem (Array (Nat×Nat))).run P w=.ok (gs.map λf=>(f.offset,P.cellsOf f.type)) w:=by
   have:=Zae (P:=P) w gs.toList uP
   rw[<-bS (xs:=gs),List.mapM_toArray]
   simp only[Sem.run_map,this,Result.andThen_ok,bS]
   congr 1
   apply Array.ext'
   simp
  have Ed:(λ(i:Nat)=>(gs.map λf=>(f.offset,P.cellsOf f.type))[i]?)=(λ(i:Nat)=>(fs[i]?).map λ(f:Nat×TypeId×Nat)=>(f.1,f.2.2)):=by
   funext i
   rw[NV]
   simp
   cases gs[i]? <;>rfl
  unfold Instr.build
  simp only[Sem.run_bind,hzero,Result.andThen_ok,run_underlying hd,hpl]
  rw[Ed]
  simp only[h1,Sem.run_pure]
 ·rename_i m e iP _ _ _ ds _ ht
  obtain⟨i,u,hi,hu,hz,_,_,_,hzero⟩:=JY hT ht
  have hk:=nf hT ht
  simp only at hk
  rw[db]at h
  obtain⟨h0,h⟩:=h
  have h0:0<iP:=lE h0
  obtain⟨oB,hK,hr⟩:=Z3m h
  refine⟨_,hK,λc w ρ mr=>?_⟩
  obtain⟨fj,h1,h2⟩:=hr c w ρ u.cells (J8 hz c w) mr
  refine⟨.agg fj,?_,fj.toList,by simp,h2⟩
  unfold Instr.build
  simp only[Sem.run_bind,hzero,Result.andThen_ok,run_underlying hk.1,BL (hk.2▸h0),hk.2]
  simp only[h1,Sem.run_pure]
 ·exact h.elim
def Vr(c:Ctx)(w:World)(row:Row)(arr:Array Value):Prop:=
 0<row.sz/\if row.box then∃e,row.es=.gen [e]/\e.length=row.sz/\arr.size=row.sz/\kU c w e arr 0 else iK c.I w row.es.l arr 0 row.sz
def Vh(P:Program)(x:Sem Value)(w:World)(c:Ctx)(k:Nat)(row:Row)(d:D):Prop:=
 ∃u arr,x.run P w=.ok u (w.alloc (.cells arr row.ty))/\Vr c w row arr/\(c.R k=none->Mem c w->Rep (c.add k row w.heap.size) (w.alloc (.cells arr row.ty)) d u)
theorem Zjl{c:Ctx}{w:World}:∀{ds:List D} {vs:List Value} {pre:List Value},jq c w ds vs->kU c w ds (pre++vs).toArray pre.length
 |[],_,_,_=>trivial
 |d::ds,[],_,h=>h.elim
 |d::ds,v::vs,pre,h=>by
  refine⟨⟨v,by simp,h.1⟩,?_⟩
  have:=Zjl (pre:=pre++[v]) h.2
  simpa using this
theorem Zmq{c:Ctx}{vs:Array Value}(h0:0<sz)(hl:ds.length=sz)(h:jq c w ds vs.toList):Vr c w ⟨true,t,sz,.gen [ds]⟩ vs:=by
 refine⟨h0,?_⟩
 simp only[if_true]
 refine⟨ds,rfl,hl,by rw[<-hl,h.length];simp,?_⟩
 have:=Zjl (pre:=[]) h
 simpa using this
theorem Qyg(P:Program)(t:TypeId)(v:Value)(w:World):(newVar t v).run P w=.ok ⟨w.heap.size,0,none⟩ (w.alloc (.cells v.cells t)):=rfl
theorem Zoz(hT:jD P T){k:TK}{sz b:Nat}{e:Bool}(ht:T.get t=some ⟨k,sz,b,cs,some ds,e⟩)(h0:0<sz)(hl:ds.length=sz)(n:Nat)(c:Ctx)(w:World):
 Vh P (Instr.alloc t true (.tuple #[])) w c n ⟨true,t,sz,.gen [ds]⟩ (.ptr n 0 0):=by
 obtain⟨i,u,hi,hu,hz,_,_,_,hzero⟩:=JY hT ht
 refine⟨.pointer (some ⟨w.heap.size,0,none⟩),u.cells,?_,Zmq h0 hl (J8 hz c w),λ_ _=>?_⟩
 ·simp only[Instr.alloc,Sem.run_bind,hzero,Result.andThen_ok,Qyg,Sem.run_pure]
 ·exact⟨_,(Ctx.jf _ _ _ _).1,by simp[Ctx.add],by simp[ak.len],by simp[(Ctx.jf _ _ _ _).2]⟩
theorem zaQ{d:D}(h0:0<sz)(hv:d.isVal=true)(hl:d.cells.length=sz)(n:Nat)(c:Ctx)(w:World)(hr:Rep c w d v):
 Vh P (Instr.box t v) w c n ⟨true,t,sz,.gen [d.cells]⟩ (.ptr n 0 0):=by
 refine⟨.pointer (some ⟨w.heap.size,0,none⟩),v.cells,?_,Zmq h0 hl (Rep.cells hv hr),λ_ _=>?_⟩
 ·simp only[Instr.box,Sem.run_bind,Qyg,Result.andThen_ok,Sem.run_pure]
 ·exact⟨_,(Ctx.jf _ _ _ _).1,by simp[Ctx.add],by simp[ak.len],by simp[(Ctx.jf _ _ _ _).2]⟩
theorem uk{I:ag}{w:World}:∀{cs:List D} {arr:Array Value} {off:Nat},nZ I w cs arr off↔ ∀j,j<cs.length->∃v,arr[off+j]?=some v/\ga I w (cs.getD j .dead) v
 |[],arr,off=>by simp[Cb,AE]
 |d ::cs,arr,off=>by
  simp only[Cb,AE,uk (cs:=cs)]
  constructor
  ·rintro⟨h1,h2⟩ j hj
   cases j with
   |zero=>simpa using h1
   |succ j=>
    have:=h2 j (by simpa using hj)
    rw[show off+1+j=off+(j+1) by omega]at this
    simpa using this
  ·intro h
   refine⟨by simpa using h 0 (by simp),λj hj=>?_⟩
   have:=h (j+1) (by simpa using hj)
   rw[show off+(j+1)=off+1+j by omega]at this
   simpa using this
theorem wF{I:ag}{w:World}:∀{es:List (List D)} {arr:Array Value} {off sz:Nat},iK I w es arr off sz↔ ∀i,i<es.length->(es.getD i []).length=sz/\nZ I w (es.getD i []) arr (off+i*sz)
 |[],arr,off,sz=>by simp[pY,oz]
 |e ::es,arr,off,sz=>by
  simp only[pY,oz,wF (es:=es)]
  constructor
  ·rintro⟨h1,h2,h3⟩ i hi
   cases i with
   |zero=>simpa using⟨h1,h2⟩
   |succ i=>
    have:=h3 i (by simpa using hi)
    rw[show off+sz+i*sz=off+(i+1)*sz by rw[aW];omega]at this
    simpa using this
  ·intro h
   have h0:=h 0 (by simp)
   simp at h0
   refine⟨h0.1,h0.2,λi hi=>?_⟩
   have:=h (i+1) (by simpa using hi)
   rw[show off+(i+1)*sz=off+sz+i*sz by rw[aW];omega]at this
   simpa using this
theorem Zce{c:Ctx}{w:World}:∀{cs:List D} {arr:Array Value} {off:Nat},kU c w cs arr off↔ ∀j,j<cs.length->∃v,arr[off+j]?=some v/\cz c w (cs.getD j .dead) v
 |[],arr,off=>by simp[kU]
 |d ::cs,arr,off=>by
  simp only[kU,Zce (cs:=cs)]
  constructor
  ·rintro⟨h1,h2⟩ j hj
   cases j with
   |zero=>simpa using h1
   |succ j=>
    have:=h2 j (by simpa using hj)
    rw[show off+1+j=off+(j+1) by omega]at this
    simpa using this
  ·intro h
   refine⟨by simpa using h 0 (by simp),λj hj=>?_⟩
   have:=h (j+1) (by simpa using hj)
   rw[show off+(j+1)=off+1+j by omega]at this
   simpa using this
theorem Rd:∀{us vs:List Value} {off k:Nat},off+us.length<=vs.length->(pP vs off us)[k]?=if off<=k/\k<off+us.length then us[k-off]? else vs[k]?
 |[],vs,off,k,_=>by
  have:¬(off<=k/\k<off):=by omega
  simp[pP,this]
 |u ::us,vs,off,k,h=>by
  simp only[dI]at h
  unfold pP
  rw[Rd (us:=us) (by simp;omega)]
  by_cases h1:off+1<=k/\k<off+1+us.length
  ·rw[if_pos h1,if_pos (by simp;omega)]
   rw[show k-off=(k-(off+1))+1 by omega]
   simp
  ·rw[if_neg h1]
   by_cases h2:k=off
   ·subst h2
    rw[if_pos (by simp)]
    simp only[gC,gD]
    rw[gE (by omega)]
   ·rw[if_neg (by simp;omega),gG (by omega)]
theorem Vs:∀{us vs:List Value} {off:Nat},(pP vs off us).length=vs.length
 |[],_,_=>rfl
 |u::us,vs,off=>by unfold pP;rw[Vs];simp
theorem HS:∀{us vs:List D} {off k:Nat},off+us.length<=vs.length->(lD vs off us)[k]?=if off<=k/\k<off+us.length then us[k-off]? else vs[k]?
 |[],vs,off,k,_=>by
  have:¬(off<=k/\k<off):=by omega
  simp[lD,this]
 |u ::us,vs,off,k,h=>by
  simp only[dI]at h
  unfold lD
  rw[HS (us:=us) (by simp;omega)]
  by_cases h1:off+1<=k/\k<off+1+us.length
  ·rw[if_pos h1,if_pos (by simp;omega)]
   rw[show k-off=(k-(off+1))+1 by omega]
   simp
  ·rw[if_neg h1]
   by_cases h2:k=off
   ·subst h2
    rw[if_pos (by simp)]
    simp only[gC,gD]
    rw[gE (by omega)]
   ·rw[if_neg (by simp;omega),gG (by omega)]
theorem cz.plain{c:Ctx}{d:D}(hp:d.plain=true)(h:cz c w d v):ga c.I w d v:=by
 cases d<;>(try(simp[D.plain]at hp;done))
 case bool=>exact sK.2 h
 case int=>exact r7.2 h
 case str=>exact Q6.2 h
 case iO=>exact sL.2 h
 case dx=>exact Q4.2 h
 case emp=>exact sM.2 (let⟨a,g,_⟩:=h;⟨a,g⟩)
 obtain⟨a,cap,hv,hc,iq⟩:=h
 refine tN.2 ⟨a,cap,hv,hc,?_⟩
 rcases iq with iq|⟨b,off,arr,ty,fz,ha,hI,hf,hh,hE⟩
 ·exact .inl iq
 ·exact .inr ⟨b,off,arr,ty,fz,ha,hI,hh,Tm.2 hE⟩
theorem Z0z{c:Ctx}{es:List (List D)}{arr:List Value}{xs:List D}(h:iK c.I w es arr.toArray 0 sz)(hi:i<es.length)(Re:off+xs.length<=sz)
 (hx:jq c w xs us) (hp:xs.all D.plain=true) (ha:i*sz+sz<=arr.length):iK c.I w (es.set i (lD (es.getD i []) off xs)) (pP arr (i*sz+off) us).toArray 0 sz:=by
 have hlen:=hx.length
 rw[wF]at h⊢
 intro k hk
 have Fb:k<es.length:=by simpa using hk
 obtain⟨h1,h2⟩:=h k Fb
 rw[uk]at h2
 by_cases oj:k=i
 ·subst oj
  have he:(es.set k (lD (es.getD k []) off xs)).getD k []=lD (es.getD k []) off xs:=by simp[aK,Fb]
  rw[he]
  refine⟨by rw[Rb];exact h1,?_⟩
  rw[uk]
  intro j hj
  rw[Rb,h1]at hj
  have hg:(lD (es.getD k []) off xs).getD j .dead=if off<=j/\j<off+xs.length then(xs.getD (j-off) .dead)else(es.getD k []).getD j .dead:=by
   simp only[aK]
   rw[HS (by simp only[aK]at h1;omega)]
   split<;>rfl
  have hv:(pP arr (k*sz+off) us).toArray[0+k*sz+j]?=if off<=j/\j<off+xs.length then us[j-off]? else arr[k*sz+j]? :=by
   simp only[aY,aX]
   rw[Rd (by omega)]
   by_cases hc:off<=j/\j<off+xs.length
   ·rw[if_pos (by omega),if_pos hc];congr 1;omega
   ·rw[if_neg (by omega),if_neg hc]
  rw[hg,hv]
  split
  ·rename_i hc
   have Rf:j-off<us.length:=by omega
   have hpl:(xs.getD (j-off) .dead).plain=true:=by
    have hm:xs.getD (j-off) .dead∈xs:=by
     simp only[aK,cG (show j-off<xs.length by omega),aG]
     exact fJ _
    exact List.all_eq_true.1 hp _ hm
   exact⟨us[j-off],cG Rf,cz.plain hpl ((EL.1 hx).2 _ _ (cG Rf))⟩
  ·obtain⟨v,J5,MT⟩:=h2 j (by rw[h1];exact hj)
   exact⟨v,by simpa using J5,MT⟩
 ·have he:(es.set i (lD (es.getD i []) off xs)).getD k []=es.getD k []:=by
   simp[aK,gG (Ne.symm oj)]
  rw[he]
  refine⟨h1,?_⟩
  rw[uk]
  intro j hj
  obtain⟨v,J5,MT⟩:=h2 j hj
  refine⟨v,?_,MT⟩
  simp only[aY,aX]at J5⊢
  rw[Rd (by omega),if_neg]
  ·exact J5
  ·rw[h1]at hj
   rintro⟨g1,g2⟩
   rcases Nat.lt_or_gt_of_ne oj with bz|bz
   ·have:=aV sz (show k+1<=i by omega)
    rw[aW]at this
    omega
   ·have:=aV sz (show i+1<=k by omega)
    rw[aW]at this
    omega
theorem Z4r{es:List (List D)}(h:iK I w es arr 0 sz)(h0:0<sz)(hi:i<es.length):i*sz+sz<=arr.size:=by
 obtain⟨h1,h2⟩:=wF.1 h i hi
 obtain⟨v,hv,_⟩:=uk.1 h2 (sz-1) (by omega)
 have:=(Array.getElem?_eq_some_iff.1 hv).1
 omega
def Ctx.jF(c:Ctx)(r:Nat)(row:Row):Ctx:={c with R:=λs=>if s=r then some row else c.R s}
theorem S4(w:World)(g:Nat)(cs:Array Value):Fr (λb=>b=g) w (w.setRow g cs):=
 ⟨rfl,rfl,rfl,by simp[World.setRow],λb _ hb=>setRow_other w g b cs hb⟩
theorem Mem.write{c:Ctx}(hm:Mem c w){jE arr:Array Value}(hr:c.R r=some row)(hV:¬c.V r)(hh:w.heap[c.ρ r]?=some (.cells jE row.ty (0,0)))(fy:arr.size=jE.size)
 (h1:ao.box=row.box) (h2:ao.ty=row.ty) (h3:ao.sz=row.sz) (h4:ao.es.l.length=row.es.l.length):
 jn c w (c.jF r ao) (w.setRow (c.ρ r) arr)/\(Vr (c.jF r ao) (w.setRow (c.ρ r) arr) ao arr->Mem (c.jF r ao) (w.setRow (c.ρ r) arr)):=by
 have fk:(w.setRow (c.ρ r) arr).heap[c.ρ r]?=some (.cells arr row.ty (0,0)):=setRow_heap w _ _ _ _ _ hh
 have Dc:∀s x,c.R s=some x->¬c.V s->s≠r->(w.setRow (c.ρ r) arr).heap[c.ρ s]?=w.heap[c.ρ s]? :=λs x hs hv gv=>setRow_other w _ _ _ (λe=>gv (hm.inj s r x row hs hr hv hV e))
 have hg:jn c w (c.jF r ao) (w.setRow (c.ρ r) arr):=by
  refine⟨rfl,aO _,λb hb=>⟨hb,setRow_other w _ _ _ (λe=>(hm.fu b hb).2 r row hr hV e.symm)⟩,λs x hs=>?_⟩
  by_cases e:s=r
  ·subst e
   rw[hr]at hs;cases hs
   exact⟨ao,by simp[Ctx.jF],h1,h2,h3,h4,rfl,Iff.rfl,λ_ a ha=>⟨arr,fk,by rw[hh]at ha;cases ha;exact fy⟩⟩
  ·exact⟨x,by simp[Ctx.jF,e,hs],rfl,rfl,rfl,rfl,rfl,Iff.rfl,λnv a ha=>⟨a,by rw[Dc s x hs nv e];exact ha,rfl⟩⟩
 refine⟨hg,λhi=>⟨λs x hs=>?_,λs q x y hs hq v1 v2 he=>?_,λb hb=>?_,by show c.top<=(w.setRow _ _).heap.size;simpa[World.setRow]using hm.top,hm.kY.mono hg.I⟩⟩
 ·by_cases e:s=r
  ·subst e
   simp only[Ctx.jF,if_true,Option.some.injEq]at hs
   subst hs
   exact .inr ⟨hV,arr,by rw[h2];exact fk,hi.1,hi.2⟩
  ·have jl:c.R s=some x:=by simpa[Ctx.jF,e]using hs
   exact um hg rfl Iff.rfl (λnv=>Dc s x jl nv e) (hm.row s x jl)
 ·have jE:∀s x,(c.jF r ao).R s=some x->∃x',c.R s=some x':=λs x hs=>by
   by_cases e:s=r
   ·exact⟨row,by rw[e];exact hr⟩
   ·exact⟨x,by simpa[Ctx.jF,e]using hs⟩
  obtain⟨x',jI⟩:=jE s x hs
  obtain⟨y',AB⟩:=jE q y hq
  exact hm.inj s q x' y' jI AB v1 v2 he
 ·obtain⟨g1,g2⟩:=hm.fu b hb
  refine⟨by simpa[World.setRow]using g1,λs x hs hv=>?_⟩
  by_cases e:s=r
  ·subst e;exact g2 s row hr hV
  ·exact g2 s x (by simpa[Ctx.jF,e]using hs) hv
theorem Zlb(hs:P.cellsOf t=n)(h0:0<n){g o:Nat}{cur:Array Value}(hg:w.heap[g]?=some (.cells cur ty (0,0)))(hn:v.cells.size=n)(hr:o+n<=cur.size)(h1:∀u∈v.cells.toList,u.oneCell'=true):
 (Instr.storeAt t (.pointer (some ⟨g,o,none⟩)) v).run P w=.ok () (w.setRow g (pP cur.toList o v.cells.toList).toArray):=by
 have h:=run_storeCells_at (P:=P) g o ty v.cells.toList 0 cur w hg (by simp;omega) h1
 have gv:¬v.cells.size≠P.cellsOf t:=by omega
 simp only[Instr.storeAt,Instr.sureAddr,Sem.run_bind,Sem.run_pure,Result.andThen_ok,storeVar,BL (hs▸h0),Sem.run_ite,gv,if_false,h]
 congr 3
 apply gH
 intro k
 rw[Rd (by simp;omega)]
 simp only[bG,Array.length_toList]
 by_cases hc:o<=k/\k<o+v.cells.size
 ·rw[if_pos hc,fG,bB (by simp;omega),aZ (by simp;omega)]
  congr 1;simp;omega
 ·rw[if_neg hc]
  by_cases hk:k<o
  ·rw[fG,aZ (by simp;omega),List.getElem?_take_of_lt hk]
  ·rw[bB (by simp;omega),List.getElem?_drop]
   congr 1;simp;omega
theorem jq.one{c:Ctx}{w:World}:∀{ds:List D} {vs:List Value},jq c w ds vs->∀u∈vs,u.oneCell'=true
 |[],[],_,_,h=>by simp at h
 |d::ds,v::vs,h,u,hu=>by
  rcases List.mem_cons.1 hu with e|e
  ·subst e;exact cz.one h.1
  ·exact jq.one h.2 u e
theorem Zjo{c:Ctx}{arr:List Value}{xs:List D}(h:kU c w e arr.toArray 0)(Re:off+xs.length<=e.length)(he:e.length=arr.length)
 (hx:jq c w xs us):kU c w (lD e off xs) (pP arr off us).toArray 0:=by
 have hlen:=hx.length
 rw[Zce]at h⊢
 intro j hj
 rw[Rb]at hj
 simp only[aK,aY,aX]at h⊢
 rw[HS Re,Rd (by omega)]
 by_cases hc:off<=j/\j<off+xs.length
 ·rw[if_pos hc,if_pos (by omega)]
  have Rf:j-off<us.length:=by omega
  exact⟨us[j-off],cG Rf,(EL.1 hx).2 _ _ (cG Rf)⟩
 ·rw[if_neg hc,if_neg (by omega)]
  exact h j hj
def tv(P:Program)(x:Sem Unit)(w:World)(c:Ctx)(R':Rows):Prop:=
 ∃r ao arr w',x.run P w=.ok () w'/\w'=w.setRow (c.ρ r) arr/\(∃row,c.R r=some row)/\¬c.V r/\jn c w (c.jF r ao) w'/\Mem (c.jF r ao) w'/\∀s,(c.jF r ao).R s=R'.getD s none
theorem Zbf{k:IntKind}{l:List Int}:∀{n j i:Nat},i<n->(HT k l j n)[i]?=some (.int k (l.getD (j+i) 0))
 |n+1,j,0,_=>by simp[HT]
 |n+1,j,i+1,h=>by
  have:=Zbf (k:=k) (l:=l) (n:=n) (j:=j+1) (i:=i) (by omega)
  rw[show j+1+i=j+(i+1) by omega]at this
  simpa[HT]using this
theorem Qn8{k:IntKind}{l:List Int}:∀{n j:Nat},(HT k l j n).length=n
 |0,_=>rfl
 |n+1,j=>by simp[HT,Qn8 (n:=n)]
theorem Za8{l:List Bool}:∀{n j i:Nat},i<n->(HU l j n)[i]?=some (.bool (l.getD (j+i) false))
 |n+1,j,0,_=>by simp[HU]
 |n+1,j,i+1,h=>by
  have:=Za8 (l:=l) (n:=n) (j:=j+1) (i:=i) (by omega)
  rw[show j+1+i=j+(i+1) by omega]at this
  simpa[HU]using this
theorem Qn4{l:List Bool}:∀{n j:Nat},(HU l j n).length=n
 |0,_=>rfl
 |n+1,j=>by simp[HU,Qn4 (n:=n)]
theorem Z66{e:List D}:∀{n off:Nat},(ints e off n).length=n
 |0,_=>rfl
 |n+1,off=>by simp[ints,Z66 (n:=n)]
theorem Z16{e:List D}:∀{n off:Nat},(bw e off n).length=n
 |0,_=>rfl
 |n+1,off=>by simp[bw,Z16 (n:=n)]
theorem WS(h:R.getD r none=some row)(s:Nat):(R.set r (some ao)).getD s none=if s=r then some ao else R.getD s none:=by
 have bz:r<R.length:=by
  by_cases hl:r<R.length
  ·exact hl
  ·rw[aK,aM (by omega)]at h;cases h
 by_cases e:s=r
 ·subst e
  simp[aK,bz]
 ·simp[aK,e,gG (Ne.symm e)]
theorem Zpb(kG:P.cellsOf t=n)(h0:0<n){box:Bool}{es jh:ak}{d:D}
 (hR:R.getD r none=some ⟨box,ty,sz,es⟩) (hv:d.isVal=true) (hn:d.cells.length=n) (hle:off+n<=sz) (hp:box=false->d.cells.all D.plain=true)
 {c:Ctx} {w:World} {v:Value} (hm:Mem c w) (hA:∀r,c.R r=R.getD r none) (hV:¬c.V r) (hi:i<es.l.length) (iq:jh.l=es.l.set i (lD (es.l.getD i []) off d.cells)) (Ad:box=true->jh=.gen [lD (es.get i) off d.cells]) (hd:Rep c w d v):
 tv P (Instr.storeAt t (.pointer (some ⟨c.ρ r,i*sz+off,none⟩)) v) w c (R.set r (some ⟨box,ty,sz,jh⟩)):=by
 have g1:c.R r=some ⟨box,ty,sz,es⟩:=by rw[hA];exact hR
 have hx:=Rep.cells hv hd
 obtain⟨jE,ho,hs,hb⟩:=hm.real g1 hV
 have hvn:v.cells.size=n:=by rw[<-hn,hx.length];simp
 simp only at ho hs hb
 have fin:∀ao:Row,ao=⟨box,ty,sz,jh⟩->i*sz+off+n<=jE.size->
  (∀c' w',jn c w c' w'->if ao.box then∃e,ao.es=.gen [e]/\e.length=ao.sz/\(pP jE.toList (i*sz+off) v.cells.toList).toArray.size=ao.sz/\kU c' w' e (pP jE.toList (i*sz+off) v.cells.toList).toArray 0
   else iK c'.I w' ao.es.l (pP jE.toList (i*sz+off) v.cells.toList).toArray 0 ao.sz)->tv P (Instr.storeAt t (.pointer (some ⟨c.ρ r,i*sz+off,none⟩)) v) w c (R.set r (some ao)):=by
  intro ao cq fy fk
  have il:=Zlb (P:=P) kG h0 (o:=i*sz+off) ho hvn fy hx.one
  have QE:(pP jE.toList (i*sz+off) v.cells.toList).toArray.size=jE.size:=by simp[Vs]
  have hw:=hm.write (ao:=ao) g1 hV ho QE (by rw[cq]) (by rw[cq]) (by rw[cq]) (by rw[cq];simp only[iq,List.length_set])
  refine⟨r,ao,_,_,il,rfl,⟨_,g1⟩,hV,hw.1,hw.2 ⟨by rw[cq];exact hs,fk _ _ hw.1⟩,λs=>?_⟩
  rw[WS hR]
  simp only[Ctx.jF]
  split
  ·rfl
  ·exact hA s
 cases box with
 |true=>
  simp only[if_true]at hb
  obtain⟨e,k1,k2,k3,k4⟩:=hb
  rw[k1]at hi iq Ad
  have r6:i=0:=by simpa[ak.l]using hi
  subst r6
  simp only[cM,aX]at fin⊢
  refine fin _ rfl (by omega) λc' w' hg=>?_
  simp only[if_true]
  refine⟨lD e off d.cells,Ad rfl,by rw[Rb];exact k2,by simp[Vs,k3],NM hg (Zjo (by simpa using k4) (by omega) (by simp;omega) hx)⟩
 |false=>
  simp only[aN,if_false]at hb
  have k9:=Z4r hb hs hi
  refine fin _ rfl (by omega) λc' w' hg=>?_
  simp only[aN,if_false]
  rw[iq]
  exact ou hg.I _ _ _ _ (Z0z (c:=c) (by simpa using hb) hi (by omega) hx (hp rfl) (by simpa using k9))
theorem xaQ{v:Int}(h:Dl k e off len=true)(hl:off+len<=e.length)(hn:n<len):
 lD e off (HT k ((ints e off len).set n v) 0 len)=lD e (off+n) [.int k v]:=by
 apply gH
 intro j
 rw[HS (by rw[Qn8];omega),HS (by simp;omega)]
 simp only[Qn8,dI,dJ]
 by_cases h1:off<=j/\j<off+len
 ·rw[if_pos h1,Zbf (by omega)]
  by_cases h2:j=off+n
  ·subst h2
   rw[if_pos (by omega)]
   simp[aK,Z66,show off+n-off=n by omega,hn]
  ·rw[if_neg (by omega)]
   have hg:=U9 (e:=e) (off:=off) (show j-off<len by omega)
   have hi:=D.kj (Vb h (show j-off<len by omega))
   rw[show off+(j-off)=j by omega]at hg hi
   have hj:e[j]?=some e[j]:=cG (by omega)
   simp only[aK,hj,aG]at hg hi
   rw[hj]
   simp only[aK,aX]
   rw[gG (by omega)]
   rw[hg,<-hi]
 ·rw[if_neg h1,if_neg (by omega)]
theorem qay{v:Bool}(h:HM e off len=true)(hl:off+len<=e.length)(hn:n<len):
 lD e off (HU ((bw e off len).set n v) 0 len)=lD e (off+n) [.bool v]:=by
 apply gH
 intro j
 rw[HS (by rw[Qn4];omega),HS (by simp;omega)]
 simp only[Qn4,dI,dJ]
 by_cases h1:off<=j/\j<off+len
 ·rw[if_pos h1,Za8 (by omega)]
  by_cases h2:j=off+n
  ·subst h2
   rw[if_pos (by omega)]
   simp[aK,Z16,show off+n-off=n by omega,hn]
  ·rw[if_neg (by omega)]
   have hg:=Va (e:=e) (off:=off) (show j-off<len by omega)
   have hi:=D.ko (Vc h (show j-off<len by omega))
   rw[show off+(j-off)=j by omega]at hg hi
   have hj:e[j]?=some e[j]:=cG (by omega)
   simp only[aK,hj,aG]at hg hi
   rw[hj]
   simp only[aK,aX]
   rw[gG (by omega)]
   rw[hg,<-hi]
 ·rw[if_neg h1,if_neg (by omega)]
theorem Zrz(hT:jD P T){x d:D}(h:Qp T t x d R K):
    ∃R',K .dead R'/\ ∀c w a v,Mem c w->(∀r,c.R r=R.getD r none)->Rep c w x a->Rep c w d v->tv P (Instr.storeAt t a v) w c R':=by
  unfold Qp at h
  cases ht:T.get t with
  |none=>simp only[ht]at h
  | some ti =>
    simp only[ht]at h
    obtain⟨i0,r6,Ff,_,Bz,AD,_⟩:=Ea (hT.get ht)
    have kG:P.cellsOf t=ti.size:=by simp [Program.cellsOf,r6,Ff]
    cases x<;>simp only at h
    case ptr r i off=>
      cases hR:R.getD r none with
      |none=>simp only[hR]at h
      | some row=>
        obtain⟨box,ty,sz,es⟩:=row
        simp only[hR,db,aE]at h
        obtain⟨⟨⟨⟨h0,hv⟩,hn⟩,hle⟩,h⟩:=h
        have h0:0<ti.size:=lE h0
        have hn:=bE hn
        have hle:=lE hle
        have go: ∀jh:ak,(box=false->d.cells.all D.plain=true)-> ∀c w a v,Mem c w->(∀r,c.R r=R.getD r none)->Rep c w (.ptr r i off) a->Rep c w d v->
            (∃row:Row,c.R r=some row/\row=⟨box,ty,sz,es⟩/\ ¬c.V r/\i<es.l.length)/\(jh.l=es.l.set i (lD (es.l.getD i []) off d.cells)->(box=true->jh= .gen [lD (es.get i) off d.cells])->tv P (Instr.storeAt t a v) w c (R.set r (some ⟨box,ty,sz,jh⟩))):=by
          intro jh hp c w a v hm hA ha hd
          obtain⟨row,g1,gV,g2,ha⟩:=ha
          have cq:row=⟨box,ty,sz,es⟩:=by rw[hA,hR]at g1;exact(Option.some.inj g1).symm
          subst cq
          subst ha
          exact⟨⟨_,g1,rfl,gV,g2⟩,λhe Ad=>Zpb kG h0 hR hv hn hle hp hm hA gV g2 he Ad hd⟩
        cases box with
        | true=>
          simp only[D.fp,ny]at h
          refine⟨_,h,λc w a v hm hA ha hd=> ?_⟩
          obtain⟨⟨row,g1,cq,gV,g2⟩,hw⟩:=go (.gen [lD (es.get i) off d.cells]) (by simp) c w a v hm hA ha hd
          subst cq
          obtain⟨jE,ho,hs,hb⟩:=hm.real g1 gV
          simp only[if_true]at hb
          obtain⟨e,k1,k2,k3,k4⟩:=hb
          have ja:=ak.nz es (show i<es.len by simpa using g2)
          refine hw ?_ (λ_=>rfl)
          rw[<-ja,k1]
          rw[k1]at g2
          have r6:i=0:=by simpa [ak.l] using g2
          subst r6
          rfl
        | false=>
          simp only[ny]at h
          refine⟨_,h.2,λc w a v hm hA ha hd=> ?_⟩
          obtain⟨⟨row,g1,cq,gV,g2⟩,hw⟩:=go _ (λ_=>h.1) c w a v hm hA ha hd
          exact hw (by rw[ak.Rg,ak.nz es (show i<es.len by simpa using g2)]) (by simp)
    case pa r i off len k n=>
      cases hR:R.getD r none with
      |none=>simp only[hR]at h
      | some row=>
        obtain⟨box,ty,sz,es⟩:=row
        simp only[hR,db,aE]at h
        obtain⟨⟨pz,hle⟩,h⟩:=h
        subst pz
        have hle:=lE hle
        have go: ∀(x:D) (xs:List D),x.isVal=true->x.cells=[x]->ti.size=1->(n<len->off+len<=(es.get i).length->lD (es.get i) off xs=lD (es.get i) (off+n) [x])-> ∀c w a v,Mem c w->(∀r,c.R r=R.getD r none)->Rep c w (.pa r i off len k n) a->Rep c w x v->
            tv P (Instr.storeAt t a v) w c (R.set r (some ⟨true,ty,sz, .gen [lD (es.get i) off xs]⟩)):=by
          intro x xs hv hc fy heq c w a v hm hA ha hd
          obtain⟨hn,row,g1,gV,g2,ha⟩:=ha
          have cq:row=⟨true,ty,sz,es⟩:=by rw[hA,hR]at g1;exact(Option.some.inj g1).symm
          subst cq
          subst ha
          obtain⟨jE,ho,hs,hb⟩:=hm.real g1 gV
          simp only[if_true]at hb
          obtain⟨e,k1,k2,k3,k4⟩:=hb
          simp only at g2
          have ja:=ak.nz es (show i<es.len by simpa using g2)
          have hlen:(es.get i).length=sz:=by
            rw[<-ja,k1]
            rw[k1]at g2
            have r6:i=0:=by simpa [ak.l] using g2
            subst r6
            exact k2
          refine Zpb (off:=off+n) kG (by omega) hR hv (by rw[hc,fy];rfl) (by omega) (by simp) hm hA gV g2 ?_ (λ_=>by rw[hc,heq hn (by omega)]) hd
          rw[ja,hc,heq hn (by omega)]
          rw[k1]at g2⊢
          have r6:i=0:=by simpa [ak.l] using g2
          subst r6
          rfl
        split at h
        . rename_i j k' k'' v hk
          simp only[decide_eq_true_eq,D.fp,ny]at h
          obtain⟨⟨⟨rfl,rfl⟩,iU⟩,h⟩:=h
          refine⟨_,h,λc w a u hm hA ha hd=>go (.int _ v) _ rfl rfl (Vd (hT.get ht) (by rw[hk];simp [TK.isAgg])) (λhn hl=>xaQ iU hl hn) c w a u hm hA ha hd⟩
        . rename_i v hk
          simp only[D.fp,ny]at h
          obtain⟨iU,h⟩:=h
          refine⟨_,h,λc w a u hm hA ha hd=>go (.bool v) _ rfl rfl (Vd (hT.get ht) (by rw[hk];simp [TK.isAgg])) (λhn hl=>qay iU hl hn) c w a u hm hA ha hd⟩
        . exact h.elim
def sv:D->Value
 |.int k n=>.int k n
 |.bool b=>.bool b
 |.str s=>.string ⟨s.toArray⟩
 |_=>undef
def rl(xs:Array Value)(o:Nat)(az:List D):Prop:=∀j d,az[j]?=some d->xs[o+j]?=some (sv d)
theorem Rh:∀{t u:List tO} {l:List D},fits (t++u) l=true->∃a b,l=a++b/\fits t a=true/\fits u b=true/\a.length=t.length
 |[],u,l,h=>⟨[],l,rfl,rfl,h,rfl⟩
 |c::t,u,[],h=>by cases c<;>simp[fits]at h
 |c ::t,u,d::l,h=>by
  cases c<;>simp only[cD,fits,aE,aN]at h
  all_goals
   obtain⟨a,b,h1,h2,h3,h4⟩:=Rh h.2
   exact⟨d::a,b,by rw[h1];rfl,by simp[fits,h.1,h2],h3,by simp[h4]⟩
theorem tn:∀{t:List tO} {l:List D},fits t l=true->l.length=t.length
 |[],[],_=>rfl
 |[],_::_,h=>by simp[fits]at h
 |c::t,[],h=>by cases c<;>simp[fits]at h
 |c::t,d::l,h=>by
  cases c<;>simp only[fits,aE,aN]at h
  all_goals simp[tn h.2]
theorem Qze:∀{a b a' b':List D},a.length=b.length->eqs (a++a') (b++b')=(eqs a b&&eqs a' b')
 |[],[],_,_,_=>by simp[eqs]
 |x::a,y::b,a',b',h=>by
  simp only[cD,eqs]
  rw[Qze (by simpa using h),Bool.and_assoc]
theorem HO(hd:P.underlying t=some d)(ha:QO d=false)(hv:xs[o]?=some v)(w:World):(part t xs o).run P w=.ok v w:=by
 unfold part
 rw[Sem.run_bind,Z5c hd,MR hd,ha,Result.andThen_ok]
 simp[hv]
theorem Vi(hd:P.underlying t=some d)(ha:QO d=true)(h0:0<P.cellsOf t)(xs:Array Value)(o:Nat)(w:World):
 (part t xs o).run P w=.ok (.agg (xs.extract o (o+P.cellsOf t))) w:=by
 unfold part
 rw[Sem.run_bind,Z5c hd,MR hd,ha,Result.andThen_ok]
 simp only[if_true,Sem.run_bind,BL h0,Result.andThen_ok,Sem.run_pure]
theorem rl.extract{az:List D}(h:rl xs o az)(hn:az.length<=n):rl (xs.extract o (o+n)) 0 az:=by
 intro j d hj
 have bz:=(List.getElem?_eq_some_iff.1 hj).1
 have:=h j d hj
 have hx:=(Array.getElem?_eq_some_iff.1 this).1
 simp only[aX,Array.getElem?_extract]
 rw[if_pos (by omega)]
 exact this
theorem rl.left{a b:List D}(h:rl xs o (a++b)):rl xs o a:=λj d hj=>h j d (by rw[aZ (List.getElem?_eq_some_iff.1 hj).1];exact hj)
theorem rl.right{a b:List D}(h:rl xs o (a++b)):rl xs (o+a.length) b:=λj d hj=>by
 rw[fX];exact h (a.length+j) d (by rw[bB (by omega)];simpa using hj)
def oM(t:TypeId)(m:Nat)(xs ys:Array Value)(o:Nat):Sem Bool:=do
 let a<-part t xs o
 let b<-part t ys o
 Op.equalIn m t a b
theorem Za3{P:Program}{n m:Nat}(ih:∀t,rQ P n t=true->P.cellsOf t=(mq P n t).length->0<P.cellsOf t->∀(xs ys:Array Value) (o:Nat) (az bs:List D) (w:World),fits (mq P n t) az=true->fits (mq P n t) bs=true->rl xs o az->rl ys o bs->
 (oM t m xs ys o).run P w=.ok (eqs az bs) w):
 ∀ (fs:List Field) (o:Nat) (az bs:List D) (xs ys:Array Value) (w:World),U4 P (rQ P n) (λu=>(mq P n u).length) fs o=true->fits (fs.flatMap λf=>mq P n f.type) az=true->fits (fs.flatMap λf=>mq P n f.type) bs=true->
  rl xs o az->rl ys o bs->(Op.eqFields m xs ys fs).run P w=.ok (eqs az bs) w
 |[],o,az,bs,xs,ys,w,_,ha,hb,_,_=>by
  have h1:=tn ha
  have h2:=tn hb
  simp at h1 h2
  subst h1;subst h2
  simp[Op.eqFields,eqs]
 |f ::fs,o,az,bs,xs,ys,w,ho,ha,hb,sa,sb=>by
  simp only[U4,aE]at ho
  obtain⟨⟨⟨⟨⟨h1,h2⟩,h3⟩,h4⟩,h5⟩,h6⟩:=ho
  have h2:=bE h2
  have h3:=bE h3
  have h4:0<(mq P n f.type).length:=lE h4
  simp only[List.flatMap_cons]at ha hb
  obtain⟨a1,a2,rfl,fa1,fa2,la⟩:=Rh ha
  obtain⟨b1,b2,rfl,fb1,fb2,lb⟩:=Rh hb
  have jb:=ih f.type h5 h3 (by omega) xs ys o a1 b1 w fa1 fb1 sa.left sb.left
  have Ak:=Za3 ih fs (o+(mq P n f.type).length) a2 b2 xs ys w h6 fa2 fb2 (by rw[<-la];exact sa.right) (by rw[<-lb];exact sb.right)
  have gv:f.name≠ "_" :=by simpa using h1
  simp only[Op.eqFields,gv,ne_eq,not_false_eq_true,if_true,h2]
  unfold oM at jb
  rw[Qze (by omega)]
  rw[Sem.run_bind]at jb⊢
  cases hp:(part f.type xs o).run P w with
  |halt x w1=>rw[hp]at jb;simp at jb
  |ok a w1=>
   rw[hp]at jb
   simp only[Result.andThen_ok,Sem.run_bind]at jb⊢
   cases hq:(part f.type ys o).run P w1 with
   |halt x w2=>rw[hq]at jb;simp at jb
   |ok b w2=>
    rw[hq]at jb
    simp only[Result.andThen_ok]at jb⊢
    rw[jb]
    simp only[Result.andThen_ok]
    cases he:eqs a1 b1 with
    |true=>simpa[he]using Ak
    |false=>simp
theorem Zia{P:Program}{n m:Nat}{e:TypeId}{k:Nat}(hk:P.cellsOf e=k)(hl:(mq P n e).length=k)(ih:∀(xs ys:Array Value) (o:Nat) (az bs:List D) (w:World),fits (mq P n e) az=true->fits (mq P n e) bs=true->rl xs o az->rl ys o bs->
 (oM e m xs ys o).run P w=.ok (eqs az bs) w):
 ∀ (len i:Nat) (az bs:List D) (xs ys:Array Value) (w:World),fits (cQ len (mq P n e)).flatten az=true->fits (cQ len (mq P n e)).flatten bs=true->rl xs (i*k) az->rl ys (i*k) bs->
  (do
   let r<-forIn (List.range' i len) ((none,()):Option Bool×Unit) λj _=>do
    let a<-part e xs (j*k)
    let b<-part e ys (j*k)
    let q<-Op.equalIn m e a b
    if(!q)=true then pure (ForInStep.done (some false,()))else pure (ForInStep.yield (none,()))
   match r.1 with
   |some a=>pure a
   |none=>pure true:Sem Bool).run P w=.ok (eqs az bs) w
 |0,i,az,bs,xs,ys,w,ha,hb,_,_=>by
  have h1:=tn ha
  have h2:=tn hb
  simp at h1 h2
  subst h1;subst h2
  simp[eqs]
 |len + 1,i,az,bs,xs,ys,w,ha,hb,sa,sb=>by
  simp only[List.replicate_succ,List.flatten_cons]at ha hb
  obtain⟨a1,a2,rfl,fa1,fa2,la⟩:=Rh ha
  obtain⟨b1,b2,rfl,fb1,fb2,lb⟩:=Rh hb
  have jb:=ih xs ys (i*k) a1 b1 w fa1 fb1 sa.left sb.left
  have Ak:=Zia hk hl ih len (i+1) a2 b2 xs ys w fa2 fb2 (by rw[aW];have:=sa.right;rwa [la,hl]at this) (by rw[aW];have:=sb.right;rwa [lb,hl]at this)
  unfold oM at jb
  rw[Qze (by omega)]
  simp only[List.range'_succ,List.forIn_cons,Sem.run_bind]at jb⊢
  cases hp:(part e xs (i*k)).run P w with
  |halt x w1=>rw[hp]at jb;simp at jb
  |ok a w1=>
   rw[hp]at jb
   simp only[Result.andThen_ok]at jb⊢
   cases hq:(part e ys (i*k)).run P w1 with
   |halt x w2=>rw[hq]at jb;simp at jb
   |ok b w2=>
    rw[hq]at jb
    simp only[Result.andThen_ok]at jb⊢
    rw[jb]
    simp only[Result.andThen_ok]
    cases he:eqs a1 b1 with
    |true=>
     simp only[Sem.run_bind]at Ak
     simpa[he]using Ak
    |false=>simp
theorem Zn6{P:Program}:∀(n:Nat) (t:TypeId) (m:Nat),n<=m->rQ P n t=true->P.cellsOf t=(mq P n t).length->0<P.cellsOf t->∀(xs ys:Array Value) (o:Nat) (az bs:List D) (w:World),
 fits (mq P n t) az=true->fits (mq P n t) bs=true->rl xs o az->rl ys o bs->(oM t m xs ys o).run P w=.ok (eqs az bs) w
 |0,t,m,_,h,_,_,_,_,_,_,_,_,_,_,_,_=>by simp[rQ]at h
 |n+1,t,0,hm,_,_,_,_,_,_,_,_,_,_,_,_,_=>by omega
 |n + 1,t,m+1,hm,h,hc,h0,xs,ys,o,az,bs,w,ha,hb,sa,sb=>by
  unfold rQ at h
  split at h
  ·rename_i k hd
   simp only[mq,hd]at ha hb
   have h1:=tn ha;have h2:=tn hb
   obtain⟨x,rfl⟩:=List.length_eq_one_iff.1 h1
   obtain⟨y,rfl⟩:=List.length_eq_one_iff.1 h2
   simp only[fits,gI]at ha hb
   have hx:=sa 0 x rfl;have hy:=sb 0 y rfl
   rw[D.kj ha]at hx⊢
   rw[D.kj hb]at hy⊢
   simp only[sv,bG]at hx hy
   simp only[oM,Sem.run_bind,HO hd rfl hx,HO hd rfl hy,Result.andThen_ok,run_equalIn_int w m t k k _ _ hd,eqs,P7,gI]
  ·rename_i hd
   simp only[mq,hd]at ha hb
   have h1:=tn ha;have h2:=tn hb
   obtain⟨x,rfl⟩:=List.length_eq_one_iff.1 h1
   obtain⟨y,rfl⟩:=List.length_eq_one_iff.1 h2
   simp only[fits,gI]at ha hb
   have hx:=sa 0 x rfl;have hy:=sb 0 y rfl
   rw[D.ko ha]at hx⊢
   rw[D.ko hb]at hy⊢
   simp only[sv,bG]at hx hy
   simp only[oM,Sem.run_bind,HO hd rfl hx,HO hd rfl hy,Result.andThen_ok,run_equalIn_bool' w m t _ _ hd,eqs,P7,gI]
  ·rename_i hd
   simp only[mq,hd]at ha hb
   have h1:=tn ha;have h2:=tn hb
   obtain⟨x,rfl⟩:=List.length_eq_one_iff.1 h1
   obtain⟨y,rfl⟩:=List.length_eq_one_iff.1 h2
   simp only[fits,gI]at ha hb
   have hx:=sa 0 x rfl;have hy:=sb 0 y rfl
   cases x<;>simp[D.isStr]at ha
   cases y<;>simp[D.isStr]at hb
   rename_i s u
   simp only[sv,bG]at hx hy
   simp only[oM,Sem.run_bind,HO hd rfl hx,HO hd rfl hy,Result.andThen_ok,run_equalIn_string w m t _ _ hd,eqs,P7,gI,ByteArray.toList_mk]
   congr 1
   rw[eI];simp
  ·rename_i fs hd
   simp only[aE,Bool.not_eq_true']at h
   have hf:P.fieldsOf t=fs:=by simp[Program.fieldsOf,hd]
   have hl:=tn ha
   have tM:=tn hb
   simp only[mq,hd]at ha hb
   simp only[oM,Sem.run_bind,Vi hd rfl h0,Result.andThen_ok]
   rw[run_equalIn_struct w m t _ _ (by rw[hf];exact hd) h.1,hf]
   refine Za3 (n:=n) (λu hu hcu h0u xs ys o az bs w=>Zn6 n u m (by omega) hu hcu h0u xs ys o az bs w) fs.toList 0 az bs _ _ w h.2 ha hb (sa.extract (by omega)) (sb.extract (by omega))
  ·rename_i len e hd
   simp only[aE]at h
   obtain⟨⟨h1,h2⟩,h3⟩:=h
   have h1:=bE h1
   have h2:0<P.cellsOf e:=lE h2
   have hl:=tn ha
   have tM:=tn hb
   simp only[mq,hd]at ha hb
   simp only[oM,Sem.run_bind,Vi hd rfl h0,Result.andThen_ok]
   have:=Zia (P:=P) (n:=n) (m:=m) (e:=e) rfl h1.symm (λxs ys o az bs w=>Zn6 n e m (by omega) h3 h1 h2 xs ys o az bs w) len 0 az bs (xs.extract o (o+P.cellsOf t)) (ys.extract o (o+P.cellsOf t)) w ha hb
    (by rw[cM];exact sa.extract (by omega)) (by rw[cM];exact sb.extract (by omega))
   rw[<-this]
   simp only[Op.equalIn,Sem.run_bind,run_underlying hd,Result.andThen_ok,BL h2,Std.Legacy.Range.forIn_eq_forIn_range',Std.Legacy.Range.size,gB,Nat.add_sub_cancel,Nat.div_one]
   congr 1
   funext r w'
   obtain⟨f,u⟩:=r
   cases f<;>rfl
  ·cases h
theorem QH:∀{vs:List Value} {ds:List D},BK vs=some ds->ds.length=vs.length
 |[],ds,h=>by simp[BK]at h;subst h;rfl
 |v ::vs,ds,h=>by
  simp only[BK]at h
  split at h
  ·rename_i d l h1 h2
   simp at h;subst h
   simp[QH h2]
  ·cases h
theorem Zag{zs:Array Value}{sz n m:Nat}(hz:z.length=sz)(hs:zs.size=sz)(hr:∀j v,zs[j]?=some v->ga I w (z.getD j .dead) v)(hm:n<=m):
 iK I w (cQ n z) (madeCells zs (m*sz)) 0 sz:=by
 rw[wF]
 intro i hi
 have iw:i<n:=by simpa using hi
 have he:(cQ n z).getD i []=z:=by simp[aK,iw]
 rw[he]
 refine⟨hz,?_⟩
 rw[uk]
 intro j hj
 have bz:i*sz+j<m*sz:=by
  have:=aV sz (show i+1<=m by omega)
  rw[aW]at this
  omega
 have Jab:(i*sz+j)%sz=j:=by rw[Nat.add_comm,Nat.add_mul_mod_self_right,Nat.mod_eq_of_lt (by omega)]
 have hj':j<zs.size:=by omega
 refine⟨zs[j],?_,hr j _ (Array.getElem?_eq_getElem hj')⟩
 have hrg:(gJ (m*sz))[i*sz+j]?=some (i*sz+j):=by rw[Array.getElem?_range,if_pos bz]
 simp only[madeCells,aX,Array.getElem?_map,hrg,Option.map_some,hs,Jab]
 simp[hj']
theorem Zan{u:Value}(h:BK u.cells.toList=some z)(hp:z.all D.plain=true)(c:Ctx)(w:World):∀j v,u.cells[j]?=some v->ga c.I w (z.getD j .dead) v:=by
 intro j v hv
 have hr:=J8 h c w
 have hl:=hr.length
 have h1:u.cells.toList[j]?=some v:=by simpa using hv
 have bz:j<z.length:=by rw[hl];exact(List.getElem?_eq_some_iff.1 h1).1
 refine cz.plain ?_ ((EL.1 hr).2 j v h1)
 have hm:z.getD j .dead∈z:=by
  simp only[aK,cG bz,aG]
  exact fJ _
 exact List.all_eq_true.1 hp _ hm
theorem ZO{c:Ctx}{k:Nat}{e:TypeId}(h1:es.l.length<=cap)(h2:cap<=maxLen)(h3:cap*sz=arr.size):
 Rep (c.add k ⟨false,e,sz,es⟩ w.heap.size) (w.alloc (.cells arr e)) (.all k) (.slice (some ⟨w.heap.size,0,none⟩) es.l.length cap):=by
 refine⟨_,(Ctx.jf _ _ _ _).1,rfl,.inr ⟨by simp[Ctx.add],cap,arr,?_,h1,h2,?_,h3⟩⟩
 ·rw[(Ctx.jf _ _ _ _).2]
 ·rw[(Ctx.jf _ _ _ _).2];exact U8 w _
theorem xx(hT:jD P T){kl kc:IntKind}{n m:Int}(h:u9 T t n m R K):
 ∃row val,K val (R++[some row])/\∀c w,Vh P (Instr.makeSlice t (.int kl n) (.int kc m)) w c R.length row val:=by
 unfold u9 at h
 split at h
 ·rename_i e _ _ _ _ _ _ ht
  have hk:=nf hT ht
  simp only at hk
  split at h
  ·rename_i kk sz lZ cs z q he
   simp only[db,aE,decide_eq_true_eq,Qx]at h
   obtain⟨⟨⟨⟨h0,hz⟩,hp⟩,g0,g1,g2,g3⟩,h⟩:=h
   have h0:0<sz:=lE h0
   have hz:=bE hz
   obtain⟨i,u,hi,hu,JX,hs,hb,hc,hzero⟩:=JY hT he
   refine⟨_,_,h,λc w=>?_⟩
   have hr:=run_make (P:=P) w t e i u hk.1 hi hu kl kc n m g0 g1 (by rw[hb];omega) g2
   rw[hs]at hr
   have Ab:u.cells.size=sz:=by have:=QH JX;simp at this;omega
   refine⟨_,_,hr,⟨h0,?_⟩,λ_ _=>?_⟩
   ·simp only[aN,if_false,ak.wa]
    exact Zag (n:=n.toNat) (m:=m.toNat) hz Ab (Zan JX hp c w) (by omega)
   ·have:=ZO (c:=c) (w:=w) (k:=R.length) (e:=e) (sz:=sz) (cap:=m.toNat) (es:=ak.Gi e n.toNat z) (arr:=madeCells u.cells (m.toNat*sz)) (by rw[ak.wa];simp;omega) (by unfold maxLen;omega) (by simp[madeCells])
    rw[ak.wa]at this
    simpa using this
  ·exact h.elim
 ·exact h.elim
theorem zx{c:Ctx}{d:D}(h:cz c w d v):cz c w d.Ri v:=by
 cases d with
 |sl sz es fr=>
  obtain⟨a,cap,hv,hc,h⟩:=h
  refine⟨a,cap,hv,hc,?_⟩
  rcases h with h|⟨b,off,arr,ty,fz,h1,h2,h3,h4⟩
  ·exact .inl h
  ·exact .inr ⟨b,off,arr,ty,fz,h1,h2,(λe=>by cases e),h4⟩
 |_=>exact h
theorem Zc4{c:Ctx}{w:World}:∀{ds:List D} {vs:List Value},jq c w ds vs->jq c w (HV ds) vs
 |[],[],_=>trivial
 |d::ds,v::vs,h=>⟨zx h.1,Zc4 h.2⟩
 |[],_::_,h=>h.elim
 |_::_,[],h=>h.elim
theorem Zih{n len:Nat}(h0:0<n){ev:Operand->D}:∀{parts:List (Nat×Operand)} {es:List (List D)} {K:List (List D)->Prop},es.length=len->HW n len ev parts es K->
 ∃ jh,K jh/\jh.length=len/\∀c w (ρ:Operand->Value) (cells:Array Value),cells.size=len*n->iK c.I w es cells 0 n->(∀p∈parts,Rep c w (ev p.2) (ρ p.2))->
  ∃fj,Instr.fill (λi=>some (i*n,n)) cells (parts.map λp=>(p.1,ρ p.2))=some fj/\fj.size=len*n/\iK c.I w jh fj 0 n
 |[],es,K,hl,h=>⟨es,h,hl,λc w ρ cells hs he _=>⟨cells,rfl,hs,he⟩⟩
 |(i,x)::ps,es,K,hl,h=>by
  unfold HW at h
  simp only[db,aE]at h
  obtain⟨⟨⟨⟨hv,hp⟩,hn⟩,hi⟩,h⟩:=h
  have hn:=bE hn
  have hi:i<len:=lE hi
  obtain⟨jh,hK,tM,hr⟩:=Zih h0 (by simpa using hl) h
  refine⟨jh,hK,tM,λc w ρ cells hs he mr=>?_⟩
  have hx:=Zc4 (Rep.cells hv (mr (i,x) (by simp)))
  have hlen:(ρ x).cells.size=n:=by rw[<-hn,hx.length];simp
  have k9:i*n+n<=cells.size:=by
   have:=aV n (show i+1<=len by omega)
   rw[aW]at this
   omega
  have hw:=Z0z (c:=c) (w:=w) (es:=es) (arr:=cells.toList) (off:=0) (i:=i) (by simpa using he) (by omega) (by omega) hx hp (by simpa using k9)
  have Rj:lD (es.getD i []) 0 (HV (ev x).cells)=HV (ev x).cells:=by
   have KV:=(wF.1 he i (by omega)).1
   apply gH
   intro k
   rw[HS (by omega)]
   by_cases hk:k<(HV (ev x).cells).length
   ·rw[if_pos (by omega)];simp
   ·rw[if_neg (by omega),aM (by omega),aM (by omega)]
  rw[Rj]at hw
  have kG:(pP cells.toList (i*n+0) (ρ x).cells.toList).toArray=(ρ x).cells.zipIdx.foldl (λcs (x:Value×Nat)=>cs.setIfInBounds (i*n+x.2) x.1) cells:=by
   rw[bG,<-Zl (ρ x) (i*n) cells]
  rw[kG]at hw
  obtain⟨fj,k1,k2,k3⟩:=hr c w ρ _ (by rw[<-kG];simp[Vs,hs]) hw (λp hp=>mr p (by simp[hp]))
  refine⟨fj,?_,k2,k3⟩
  simp only[fQ,Instr.fill]
  rw[if_neg (by simp;omega)]
  exact k1
theorem Zbi{n len:Nat}{ev:Operand->D}:∀{parts:List (Nat×Operand)} {es:List (List D)} {K:List (List D)->Prop},HW n len ev parts es K->
 ∃jh,K jh/\∀(ir:Operand->D) (K2:List (List D)->Prop),(∀p∈parts,ir p.2=ev p.2)->K2 jh->HW n len ir parts es K2
 |[],es,K,h=>⟨es,h,λir K2 _ h2=>h2⟩
 |(i,x)::ps,es,K,h=>by
  unfold HW at h
  simp only[db]at h
  obtain⟨jh,h1,h2⟩:=Zbi h.2
  refine⟨jh,h1,λir K2 he hk=>?_⟩
  unfold HW
  rw[he (i,x) (by simp)]
  simp only[db]
  exact⟨h.1,h2 ir K2 (λp hp=>he p (by simp[hp])) hk⟩
theorem Zm4{parts:List (Nat×Operand)}(h:M0 T t len parts ev R K):
 ∃val,K val R/\∀(ir:Operand->D) (R2:Rows),(∀p∈parts,ir p.2=ev p.2)->M0 T t len parts ir R2 λd R'=>d=val/\R'=R2:=by
 unfold M0 at h⊢
 split at h
 ·split at h
  ·simp only[db]at h⊢
   obtain⟨h0,h⟩:=h
   obtain⟨jh,hK,hd⟩:=Zbi h
   cases len with
   |zero=>exact⟨_,hK,λir R2 fh=>⟨h0,hd ir _ fh (by simp)⟩⟩
   |succ m=>exact⟨_,hK,λir R2 fh=>⟨h0,hd ir _ fh (by simp)⟩⟩
  ·exact h.elim
 ·exact h.elim
theorem Zqs(hT:jD P T){parts:List (Nat×Operand)}(h:M0 T t len parts ev R K):
    ∃val,K val R/\ ∀c w (ρ:Operand->Value),c.base<=w.heap.size->(∀p∈parts,Rep c w (ev p.2) (ρ p.2))-> ∃u arr ty,(Instr.buildSlice t len (parts.map λp=>(p.1,ρ p.2)).toArray).run P w= .ok u (w.alloc (.cells arr ty))/\(Mem c w->Rep (c.fu w.heap.size) (w.alloc (.cells arr ty)) val u):=by
  unfold M0 at h
  split at h
  . rename_i e _ _ _ _ _ _ ht
    have hk:=nf hT ht
    simp only at hk
    split at h
    . rename_i kk sz lZ cs z q he
      simp only[db,aE]at h
      obtain⟨⟨⟨⟨h0,hz⟩,hle⟩,hp⟩,h⟩:=h
      have h0:0<sz:=lE h0
      have hz:=bE hz
      have hle:=lE hle
      obtain⟨i,u,hi,hu,JX,hs,hb,hc,hzero⟩:=JY hT he
      obtain⟨jh,hK,tM,hr⟩:=Zih h0 (by simp) h
      have Ab:u.cells.size=sz:=by have:=QH JX;simp at this;omega
      have main: ∀c w (ρ:Operand->Value),(∀p∈parts,Rep c w (ev p.2) (ρ p.2))-> ∃fj,(Instr.buildSlice t len (parts.map λp=>(p.1,ρ p.2)).toArray).run P w= .ok (.slice (some ⟨w.heap.size,0,none⟩) len len) (w.alloc (.cells fj e))/\iK c.I w jh fj 0 sz:=by
        intro c w ρ mr
        have KV:=Zag (I:=c.I) (w:=w) hz Ab (Zan JX hp c w) (aO len)
        obtain⟨fj,k1,k2,k3⟩:=hr c w ρ (madeCells u.cells (len*sz)) (by simp [madeCells]) KV mr
        refine⟨fj,?_,k3⟩
        have Jac: ¬len*sz>2^24:=by omega
        have Fp:0<P.cellsOf e:=by omega
        unfold Instr.buildSlice
        simp only[Sem.run_bind,run_underlying hk.1,Result.andThen_ok,BL Fp,hc,Sem.run_ite,Jac,if_false,Sem.run_pure]
        by_cases MJ:len*sz=0
        . have om:Instr.fill (λi=>some (i*sz,sz)) ((gJ (len*sz)).map λx=>(#[]:Array Value)[x%(#[]:Array Value).size]!) (parts.map λp=>(p.1,ρ p.2))=some fj:=by
            rw[<-k1];congr 1
            rw[MJ];simp [madeCells]
          simp only[MJ,if_true]at om⊢
          rw[om]
          simp only[newRow,Sem.run_bind,run_newObj,Result.andThen_ok,Sem.run_pure]
          rfl
        . simp only[MJ,if_false,hzero,Result.andThen_ok]
          rw[show Instr.fill (λi=>some (i*sz,sz)) ((gJ (len*sz)).map λx=>u.cells[x%u.cells.size]!) (parts.map λp=>(p.1,ρ p.2))=some fj from k1]
          simp only[newRow,Sem.run_bind,run_newObj,Result.andThen_ok,Sem.run_pure]
          rfl
      cases len with
      | zero=>
        refine⟨_,hK,λc w ρ _ mr=> ?_⟩
        obtain⟨fj,h1,_⟩:=main c w ρ mr
        exact⟨_,fj,e,h1,λ_=>⟨_,rfl,λx hx=>by cases hx;exact Nat.lt_of_lt_of_le (Nat.lt_succ_self _) (Nat.le_max_right _ _)⟩⟩
      | succ m=>
        refine⟨_,hK,λc w ρ jm mr=> ?_⟩
        obtain⟨fj,h1,h2⟩:=main c w ρ mr
        refine⟨_,fj,e,h1,λhm=> ?_⟩
        refine⟨some ⟨w.heap.size,0,none⟩,m+1,by rw[ak.Dv,tM],by rw[ak.Dv,tM];exact aO _, .inr ⟨w.heap.size,0,fj,e,(0,0),rfl, .inr rfl,λ_=>jm,U8 w _,?_⟩⟩
        rw[ak.Dv]
        exact ou (Vf hm _).I _ _ _ _ h2
    . exact h.elim
  . exact h.elim

