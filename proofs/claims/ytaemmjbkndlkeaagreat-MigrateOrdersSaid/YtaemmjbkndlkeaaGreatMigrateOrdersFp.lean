import Derived.Test.YtaemmjbkndlkeaaGreatMigrateOrdersFm
import Derived.Lib.Strings
open Bool renaming eq_iff_iff->eB,false_eq_true->aA,and_true->gA
open Option renaming map_eq_some_iff->fF,getD_some->aR
open Nat renaming add_assoc->fP,succ_mul->bF,le_refl->aX,sub_zero->fT,sub_self->fU,zero_add->bG,mul_le_mul_right->bD,add_zero->aB,zero_mul->fZ
open List renaming length_nil->dE,map_cons->fG,length_cons->dD,getElem?_cons_zero->fV,getElem?_set_self->fW,getElem?_set_ne->fX,getD->aV,getElem?_toArray->bH,getElem?_eq_getElem->aI,getElem_mem->eT,ext_getElem?->fY,append_assoc->aM,getElem?_append_right->bJ,getElem?_append_left->bI,getElem?_eq_none->aJ,cons_append->cH,replicate->cO
open Array renaming toArray_toList->bW,range->gB
set_option linter.all false
namespace Go.GD
open Go
variable {I:ae}{K:D->Rows->Prop}{P:Program}{R:Rows}{T:iu}{arr xs:Array Value}{b:Bool}{cap f i len n o off r sz:Nat}{cs:List sq}{d:TypeDesc}{ds e z:List D}{es:ai}{ev:Operand->D}{hi lo:Option Operand}{k k':IntKind}{op:BinOp}{row ao:Row}{s t ty:TypeId}{us:List Value}{v:Value}{w:World}{x y:Operand}{ρ:Operand->Value}
theorem Zks(a b:List UInt8):(ByteArray.mk a.toArray)++(ByteArray.mk b.toArray)=ByteArray.mk (a++b).toArray:=by
 rw[ByteArray.ext_iff]
 simp
theorem Rep.int{c:Ctx}{n:Int}:Rep c w (.int k n) v↔v=.int k n:=Iff.rfl
theorem Rep.bool{c:Ctx}:Rep c w (.bool b) v↔v=.bool b:=Iff.rfl
theorem Rep.str{c:Ctx}{s:List UInt8}:Rep c w (.str s) v↔v=.string ⟨s.toArray⟩:=Iff.rfl
theorem Y6{a b:Int}(w:World):(eqGuard op t x y (.int k a) (.int k' b)).run P w=.ok () w:=by
 cases op<;>rfl
theorem Zmi{a b:ByteArray}(w:World):(eqGuard op t x y (.string a) (.string b)).run P w=.ok () w:=by
 cases op<;>rfl
theorem Z1j{a b:Bool}(w:World):(eqGuard op t x y (.bool a) (.bool b)).run P w=.ok () w:=by
 cases op<;>rfl
theorem qaq{a b:Int}{K:D->Prop}(rJ:op≠.shl/\op≠.shr)(h:U0 op k a b K):
 ∃d,K d/\∀w,∃u,(binOp op t (.int k a) (.int k b)).run P w=.ok u w/\∀c,Rep c w d u:=by
 cases op<;>simp only[U0,dd,decide_eq_true_eq]at h
 case add=>exact⟨_,h,λw=>⟨_,by simp only[binOp,ne_eq,not_true_eq_false,if_false,Op.intArith,Sem.run_pure];try rfl,λc=>rfl⟩⟩
 case sub=>exact⟨_,h,λw=>⟨_,by simp only[binOp,ne_eq,not_true_eq_false,if_false,Op.intArith,Sem.run_pure];try rfl,λc=>rfl⟩⟩
 case mul=>exact⟨_,h,λw=>⟨_,by simp only[binOp,ne_eq,not_true_eq_false,if_false,Op.intArith,Sem.run_pure];try rfl,λc=>rfl⟩⟩
 case quo=>exact⟨_,h.2,λw=>⟨_,by simp only[binOp,ne_eq,not_true_eq_false,if_false,Op.intDiv,h.1,Sem.run_pure];try rfl,λc=>rfl⟩⟩
 case rem=>exact⟨_,h.2,λw=>⟨_,by simp only[binOp,ne_eq,not_true_eq_false,if_false,Op.intDiv,h.1,Sem.run_pure];try rfl,λc=>rfl⟩⟩
 case and=>exact⟨_,h,λw=>⟨_,by simp only[binOp,ne_eq,not_true_eq_false,if_false,Op.intBits,Sem.run_pure];try rfl,λc=>rfl⟩⟩
 case or=>exact⟨_,h,λw=>⟨_,by simp only[binOp,ne_eq,not_true_eq_false,if_false,Op.intBits,Sem.run_pure];try rfl,λc=>rfl⟩⟩
 case xor=>exact⟨_,h,λw=>⟨_,by simp only[binOp,ne_eq,not_true_eq_false,if_false,Op.intBits,Sem.run_pure];try rfl,λc=>rfl⟩⟩
 case andNot=>exact⟨_,h,λw=>⟨_,by simp only[binOp,ne_eq,not_true_eq_false,if_false,Op.intBits,Sem.run_pure];try rfl,λc=>rfl⟩⟩
 case eql=>exact⟨_,h,λw=>⟨_,by simp only[binOp,ne_eq,not_true_eq_false,if_false,Op.intCmp,Sem.run_pure];try rfl,λc=>rfl⟩⟩
 case neq=>exact⟨_,h,λw=>⟨_,by simp only[binOp,ne_eq,not_true_eq_false,if_false,Op.intCmp,Sem.run_pure];try rfl,λc=>rfl⟩⟩
 case lss=>exact⟨_,h,λw=>⟨_,by simp only[binOp,ne_eq,not_true_eq_false,if_false,Op.intCmp,Sem.run_pure];try rfl,λc=>rfl⟩⟩
 case leq=>exact⟨_,h,λw=>⟨_,by simp only[binOp,ne_eq,not_true_eq_false,if_false,Op.intCmp,Sem.run_pure];try rfl,λc=>rfl⟩⟩
 case gtr=>exact⟨_,h,λw=>⟨_,by simp only[binOp,ne_eq,not_true_eq_false,if_false,Op.intCmp,Sem.run_pure];try rfl,λc=>rfl⟩⟩
 case geq=>exact⟨_,h,λw=>⟨_,by simp only[binOp,ne_eq,not_true_eq_false,if_false,Op.intCmp,Sem.run_pure];try rfl,λc=>rfl⟩⟩
theorem Zky{a b:Int}(hb:0<=b)(w:World):
 (binOp .shl t (.int k a) (.int k' b)).run P w=.ok (.int k (ei k a b)) w/\(binOp .shr t (.int k a) (.int k' b)).run P w=.ok (.int k (bj k a b)) w:=by
 have:¬b<0:=by omega
 constructor<;>(simp only[binOp];simp[Op.shift,this,ei,bj])
theorem zaq{a b:List UInt8}{K:D->Prop}
 (h:match op with
  |.add=>cu (decide (a.length+b.length<=maxLen)) (K (.str (a++b)))
  |.eql=>K (.bool (decide (a=b)))
  |.neq=>K (.bool (!decide (a=b)))
  |_=>False):
 ∃d,K d/\∀w,∃u,(binOp op t (.string ⟨a.toArray⟩) (.string ⟨b.toArray⟩)).run P w=.ok u w/\∀c,Rep c w d u:=by
 cases op<;>simp only[dd,decide_eq_true_eq]at h
 case add=>
  refine⟨_,h.2,λw=>⟨_,?_,λc=>rfl⟩⟩
  have hl:¬(((a.toArray.size+b.toArray.size:Nat):Int)>IntKind.i64.max):=by
   have:=h.1
   unfold maxLen at this
   simp only[List.size_toArray,IntKind.max,IntKind.signed,IntKind.bits,if_true]
   omega
  simp only[binOp]
  simp only[Op.stringOp,ByteArray.size,hl,if_false,Sem.run_pure,Zks]
 case eql=>
  refine⟨_,h,λw=>⟨_,?_,λc=>rfl⟩⟩
  simp only[binOp]
  simp only[Op.stringOp,Sem.run_pure,ByteArray.toList_mk,show(a==b)=decide (a=b) from by rw[eB];simp]
  try rfl
 case neq=>
  refine⟨_,h,λw=>⟨_,?_,λc=>rfl⟩⟩
  simp only[binOp]
  simp only[Op.stringOp,Sem.run_pure,ByteArray.toList_mk,show(a==b)=decide (a=b) from by rw[eB];simp]
  try rfl
def Gs(P:Program)(x:Sem Value)(w:World)(c:Ctx)(d:D):Prop:=∃u,x.run P w=.ok u w/\Rep c w d u
theorem mK(hT:jg P T){k:TK}{a b:Nat}{z:Option (List D)}{e:Bool}(h:T.get t=some ⟨k,a,b,cs,z,e⟩):
 match k with
 |.int j=>P.underlying t=some (.int j)
 |.bool=>P.underlying t=some .bool
 |.string=>P.underlying t=some .string
 |.slice u n=>P.underlying t=some (.slice u)/\P.cellsOf u=n
 |.struct fs=>∃gs,P.underlying t=some (.struct gs)/\fs=gs.toList.map λf=>(f.offset,f.type,P.cellsOf f.type)
 |.array m u n=>P.underlying t=some (.array m u)/\P.cellsOf u=n
 |.other=>True:=by
 obtain⟨i,hi,hs,hb,hl,hk,_⟩:=Qc (hT.get h)
 simp only at hk
 unfold Ht at hk
 split at hk<;>(subst hk;simp_all)
theorem xaq(hT:jg P T){s d:TypeId}{x:D}{K:D->Prop}(h:Mq T s d x K):
 ∃val,K val/\∀c w v,Rep c w x v->Gs P (convert s d v) w c val:=by
 unfold Mq at h
 split at h
 ·rename_i k1 _ _ _ _ _ k2 _ _ _ _ _ hs hd
  have h1:=mK hT hs
  have h2:=mK hT hd
  simp only at h1 h2
  cases x<;>simp only at h
  exact⟨_,h,λc w v hv=>⟨_,by rw[Rep.int.1 hv];simp only[convert,Sem.run_bind,run_underlying h1,run_underlying h2,Result.andThen_ok,Conv.intToInt,Sem.run_pure],rfl⟩⟩
 ·rename_i hs hd
  have h1:=mK hT hs
  have h2:=mK hT hd
  simp only at h1 h2
  cases x<;>simp only at h
  exact⟨_,h,λc w v hv=>⟨_,by rw[Rep.str.1 hv];simp only[convert,Sem.run_bind,run_underlying h1,run_underlying h2,Result.andThen_ok,Sem.run_pure],rfl⟩⟩
 ·exact h.elim
theorem Z22(hT:jg P T){q:TypeId×Nat}(h:QC T s f=some (o,q)):
 ∃fs fd,P.underlying s=some (.struct fs)/\fs[f]?=some fd/\fd.offset=o/\fd.type=q.1/\P.cellsOf fd.type=q.2:=by
 unfold QC at h
 split at h
 ·rename_i fs _ _ _ _ _ ht
  obtain⟨i,hi,hs,hb,hl,hk,_⟩:=Qc (hT.get ht)
  simp only at hk
  unfold Ht at hk
  split at hk<;>try(cases hk;done)
  rename_i gs hd
  simp only[TK.struct.injEq]at hk
  subst hk
  simp only[List.getElem?_map,fF,Prod.mk.injEq,Array.getElem?_toList]at h
  obtain⟨fd,h1,h2,h3⟩:=h
  exact⟨gs,fd,hd,h1,h2,by rw[<-h3],by rw[<-h3]⟩
 ·cases h
theorem Zfx(h:0<P.cellsOf t):∃i,P.info? t=some i:=by
 unfold Program.cellsOf at h
 cases hi:P.info? t with
 |none=>simp[hi]at h
 |some i=>exact⟨i,rfl⟩
theorem AF(h:0<P.cellsOf t)(w:World):(sizeOf t).run P w=.ok (P.cellsOf t) w:=by
 obtain⟨i,hi⟩:=Zfx h
 exact run_sizeOf w hi
theorem Z6n{fs:Array Field}{fd:Field}(hs:P.underlying s=some (.struct fs))(hf:fs[f]?=some fd)(h0:0<P.cellsOf fd.type)(b o:Nat)(w:World):
 (Instr.fieldAt s (.pointer (some ⟨b,o,none⟩)) f).run P w=.ok (.pointer (some ⟨b,o+fd.offset,none⟩)) w:=by
 have h1:¬P.cellsOf fd.type=0:=by omega
 simp only[Instr.fieldAt,Sem.run_bind,run_underlying hs,Result.andThen_ok,hf,Instr.sureAddr,Sem.run_pure,fieldPlace,AF h0,Sem.run_ite,h1,if_false,Fu]
theorem Zrv(hT:jg P T){x:D}{U1:Bool}{n:Int}(h:U2 T t x U1 n R K):
 ∃val,K val R/\∀c w v,Mem c w->mn c R->Rep c w x v->Gs P (Instr.indexAt t v (.int k n)) w c val:=by
 unfold U2 at h
 split at h
 ·rename_i e iF _ _ _ _ _ ht
  have hk:=mK hT ht
  simp only at hk
  obtain⟨hu,fp⟩:=hk
  have Zx:∀(b o len cap:Nat) (w:World),0<iF->0<=n->n<len->(Instr.indexAt t (.slice (some ⟨b,o,none⟩) len cap) (.int k n)).run P w=.ok (.pointer (some ⟨b,o+n.toNat*iF,none⟩)) w:=by
   intro b o len cap w h0 h1 h2
   simp only[Instr.indexAt,asIntOf,Sem.run_bind,Sem.run_pure,Result.andThen_ok,run_underlying hu,Sem.run_ite,h1,h2,and_self,if_true,AF (fp▸h0),fp,Fu]
  cases x<;>simp only[dd,aE,decide_eq_true_eq,<-ai.iq]at h
  case sl sz es fr=>
   obtain⟨⟨⟨h1,h0⟩,h2,h3⟩,h⟩:=h
   have h1:=bE h1
   have h0:0<iF:=lE h0
   subst h1
   refine⟨_,h,λc w v hm hA hv=>?_⟩
   obtain⟨a,cap,hv,hc,gy⟩:=hv
   rcases gy with gy|⟨b,off,arr,ty,fz,ha,hI,hf,hh,hE⟩
   ·rw[gy]at h3;simp at h3;omega
   ·subst ha;subst hv
    refine⟨_,Zx b off _ _ w h0 h2 h3,b,off,arr,ty,fz,by simp,hI,by omega,hh,hE⟩
  case all r=>
   split at h
   ·rename_i box ty sz es hR
    obtain⟨⟨⟨h1,h0⟩,h2,h3⟩,h⟩:=h
    have h1:=bE h1
    have h0:0<iF:=lE h0
    subst h1
    refine⟨_,h,λc w v hm hA hv=>?_⟩
    obtain⟨row,g1,g2,hv⟩:=hv
    have:=hA r row _ g1 hR
    subst this
    rcases hv with⟨hV,a,hv,_⟩|⟨hV,cap,arr,hv,g3,g4,g5,g6⟩
    ·have:=(hm.nA g1 hV).2.1
     simp only at this
     rw[this]at h3
     simp at h3;omega
    ·subst hv
     exact⟨_,Zx _ 0 _ _ w h0 h2 h3,_,g1,hV,by simp only;omega,by simp⟩
   ·exact h.elim
  case own r o m=>
   split at h
   ·rename_i box ty sz es hR
    obtain⟨⟨⟨h1,h0⟩,h2,h3⟩,h⟩:=h
    have h1:=bE h1
    have h0:0<iF:=lE h0
    subst h1
    refine⟨_,h,λc w v hm hA hv=>?_⟩
    obtain⟨row,g1,g2,g5,hv⟩:=hv
    have:=hA r row _ g1 hR
    subst this
    simp only at*
    rcases hv with⟨g7,_⟩|⟨hV,cap,arr,g3,g4,g6,hv,g7⟩
    ·omega
    ·subst hv
     exact⟨_,Zx _ _ _ _ w h0 h2 h3,_,g1,hV,by simp only;omega,by simp[Nat.add_mul]⟩
   ·exact h.elim
 ·rename_i len e iF _ _ _ _ _ ht
  have hk:=mK hT ht
  simp only at hk
  obtain⟨hu,fp⟩:=hk
  simp only[dd,aE,decide_eq_true_eq]at h
  obtain⟨⟨h0,h2,h3⟩,h⟩:=h
  have h0:0<iF:=lE h0
  have Db:∀(b o:Nat) (w:World),(Instr.indexAt t (.pointer (some ⟨b,o,none⟩)) (.int k n)).run P w=.ok (.pointer (some ⟨b,o+n.toNat*iF,none⟩)) w:=by
   intro b o w
   simp only[Instr.indexAt,asIntOf,Sem.run_bind,Sem.run_pure,Result.andThen_ok,run_underlying hu,Instr.sureAddr,Sem.run_ite,h2,h3,and_self,if_true,AF (fp▸h0),fp,Fu]
  cases x<;>simp only at h
  case ptr r i off=>
   have wT:K (.ptr r i (off+n.toNat*iF)) R->∃val,K val R/\∀c w v,Mem c w->mn c R->Rep c w (.ptr r i off) v->Gs P (Instr.indexAt t v (.int k n)) w c val:=λh=>
    ⟨_,h,λc w v hm hA hv=>by
     obtain⟨row,g1,gV,g2,hv⟩:=hv
     subst hv
     exact⟨_,Db _ _ w,row,g1,gV,g2,by simp[fP]⟩⟩
   have nB:∀kk,Nat.beq iF 1=true->K (.pa r i off len kk n.toNat) R->∃val,K val R/\∀c w v,Mem c w->mn c R->Rep c w (.ptr r i off) v->Gs P (Instr.indexAt t v (.int k n)) w c val:=λkk h1 h=>
    ⟨_,h,λc w v hm hA hv=>by
     obtain⟨row,g1,gV,g2,hv⟩:=hv
     have h1:=bE h1
     subst hv
     exact⟨_,Db _ _ w,by omega,row,g1,gV,g2,by simp[fP,h1]⟩⟩
   cases U1 with
   |true=>exact wT h
   |false=>
    simp only at h
    split at h
    ·exact nB _ h.1 h.2
    ·exact nB _ h.1 h.2
    ·exact wT h
  case im sz es i off=>
   refine⟨_,h,λc w v hm hA hv=>?_⟩
   obtain⟨b,o,arr,ty,fz,hv,hI,hi,hh,hE⟩:=hv
   subst hv
   exact⟨_,Db _ _ w,b,o,arr,ty,fz,by simp[fP],hI,hi,hh,hE⟩
 ·exact h.elim
theorem z8{x:Option Operand}{n l:Int}{c:Ctx}(h:rU x ev n=some l)(hr:∀y,x=some y->Rep c w (ev y) (ρ y)):
 (x=none/\l=n)\/∃y k,x=some y/\ρ y=.int k l:=by
 cases x with
 |none=>simp[rU]at h;exact .inl ⟨rfl,h.symm⟩
 |some y=>
  simp only[rU]at h
  cases hd:ev y<;>simp only[hd]at h<;>try(cases h;done)
  have:=hr y rfl
  rw[hd]at this
  simp only[Option.some.injEq]at h
  subst h
  exact .inr ⟨y,_,rfl,Rep.int.1 this⟩
theorem Zbq{l h:Int}{c:Ctx}
 (hl:rU lo ev 0=some l) (hh:rU hi ev len=some h) (rz:∀y,lo=some y->Rep c w (ev y) (ρ y)) (AH:∀y,hi=some y->Rep c w (ev y) (ρ y))
 (h0:0<=l) (h1:l<=h) (h2:h<=cap):(Instr.sliceBounds b len cap (lo.map ρ) (hi.map ρ) none).run P w=.ok (l.toNat,h.toNat,cap) w:=by
 have bound:∀(k:IntKind) (i:Int) (y:Nat) (code:BoundsCode),0<=i->i<=y->(Instr.sliceBound (.int k i) y code).run P w=.ok i.toNat w:=by
  intro k i y code a1 a2
  simp[Instr.sliceBound,asIntOf,a1,a2]
 rcases z8 hh AH with⟨rfl,rfl⟩|⟨y,k,rfl,hy⟩<;>rcases z8 hl rz with⟨rfl,rfl⟩|⟨z,k',rfl,hz⟩
 ·simp[Instr.sliceBounds]
 ·simp[Instr.sliceBounds,hz,bound k' l len _ h0 h1]
 ·simp[Instr.sliceBounds,hy,bound k h cap _ (by omega) h2]
 ·simp[Instr.sliceBounds,hy,hz,bound k h cap _ (by omega) h2,bound k' l h.toNat _ h0 (by omega)]
theorem Kn{I:ae}{w:World}:∀{es:List (List D)} {arr:Array Value} {off sz l:Nat},ik I w es arr off sz->ik I w (es.drop l) arr (off+l*sz) sz
 |es,arr,off,sz,0,h=>by simpa using h
 |[],arr,off,sz,l+1,h=>by simp[ra,pN]
 |e::es,arr,off,sz,l+1,h=>by
  simp only[ra,pN]at h
  have:=Kn (l:=l) h.2.2
  rw[show off+(l+1)*sz=off+sz+l*sz by rw[bF];omega]
  simpa using this
theorem Mb{I:ae}{w:World}:∀{es:List (List D)} {arr:Array Value} {off sz n:Nat},ik I w es arr off sz->ik I w (es.take n) arr off sz
 |es,arr,off,sz,0,h=>by simp[ra,pN]
 |[],arr,off,sz,n+1,h=>by simp[ra,pN]
 |e::es,arr,off,sz,n+1,h=>by
  simp only[ra,pN]at h
  simp only[List.take_succ_cons,ra,pN]
  exact⟨h.1,h.2.1,Mb h.2.2⟩
theorem Zfg(s:List UInt8)(l h:Nat):(ByteArray.mk s.toArray).extract l h=⟨((s.drop l).take (h-l)).toArray⟩:=by
 rw[Lib.extract_eq]
theorem Zhb:∀{e:List D} {off n:Nat},(ints e off n).length=n
 |_,_,0=>rfl
 |e,off,n+1=>by simp[ints,Zhb]
theorem Zbd{I:ae}{w:World}{k:IntKind}{e:List D}{arr:Array Value}{o:Nat}(h:oP I w e arr o):∀{n off:Nat},off+n<=e.length->CS k e off n=true->ik I w (ai.ints k (ints e off n)).l arr (o+off) 1
 |0,_,_,_=>ra.2 trivial
 |n+1,off,hl,ha=>by
  simp only[CS,aE]at ha
  obtain⟨v,hv,hp⟩:=UH h (j:=off) (by omega)
  rw[D.ka ha.1]at hp
  have r:=Zbd h (n:=n) (off:=off+1) (by omega) ha.2
  rw[show o+(off+1)=o+off+1 by omega]at r
  exact pN.2 ⟨rfl,DK.2 ⟨⟨v,hv,hp⟩,DJ.2 trivial⟩,r⟩
theorem qT(hT:jg P T){x:D}(h:Mr T t x lo hi ev R K):
 ∃ val,K val R/\∀c w v (ρ:Operand->Value),Mem c w->mn c R->Rep c w x v->(∀y,lo=some y->Rep c w (ev y) (ρ y))->(∀y,hi=some y->Rep c w (ev y) (ρ y))->
  Gs P (Instr.sliceAt t v (lo.map ρ) (hi.map ρ) none) w c val:=by
 unfold Mr at h
 split at h
 ·rename_i ht
  have hu:=mK hT ht
  simp only at hu
  cases x<;>simp only at h
  case str s=>
   split at h
   ·rename_i l u hl hh
    try rw[<-ai.iq]at hh
    simp only[dd,decide_eq_true_eq]at h
    obtain⟨⟨h0,h1,h2⟩,h⟩:=h
    refine⟨_,h,λc w v ρ hm hA hv rz AH=>?_⟩
    rw[Rep.str.1 hv]
    refine⟨_,?_,rfl⟩
    have hb:=Zbq (P:=P) (b:=false) (len:=s.length) (cap:=s.length) hl hh rz AH h0 h1 h2
    have fp:(ByteArray.mk s.toArray).size=s.length:=by simp[ByteArray.size]
    simp only[Instr.sliceAt,Sem.run_bind,run_underlying hu,Result.andThen_ok,Instr.slice,Option.isSome_none,aA,if_false,fp,hb,Sem.run_pure,Zfg]
   ·exact h.elim
 ·rename_i e iF _ _ _ _ _ ht
  have hk:=mK hT ht
  simp only at hk
  obtain⟨hu,fp⟩:=hk
  have sl:∀(a:Option Addr) (len cap:Nat) (l u:Int) (c:Ctx) (w:World) (ρ:Operand->Value),0<iF->rU lo ev 0=some l->rU hi ev len=some u->(∀y,lo=some y->Rep c w (ev y) (ρ y))->(∀y,hi=some y->Rep c w (ev y) (ρ y))->
   0<=l->l<=u->u<=cap->(Instr.sliceAt t (.slice a len cap) (lo.map ρ) (hi.map ρ) none).run P w=.ok (.slice (if cap=l.toNat then a else a.map (·.add (l.toNat*iF))) (u.toNat-l.toNat) (cap-l.toNat)) w:=by
   intro a len cap l u c w ρ h0 hl hh rz AH g0 g1 g2
   have hb:=Zbq (P:=P) (b:=true) (len:=len) (cap:=cap) hl hh rz AH g0 g1 g2
   simp only[Instr.sliceAt,Sem.run_bind,run_underlying hu,Result.andThen_ok,Instr.slice,hb,AF (fp▸h0),fp,Sem.run_pure]
  cases x<;>simp only at h
  case sl sz es fr=>
   split at h
   ·rename_i l u hl hh
    try rw[<-ai.iq]at hh
    simp only[dd,aE,decide_eq_true_eq,<-ai.iq]at h
    obtain⟨⟨⟨h1,h0⟩,g0,g1,g2⟩,h⟩:=h
    have h1:=bE h1
    have h0:0<iF:=lE h0
    subst h1
    refine⟨_,h,λc w v ρ hm hA hv rz AH=>?_⟩
    obtain⟨a,cap,hv,hc,gy⟩:=hv
    subst hv
    refine⟨_,sl a _ cap l u c w ρ h0 hl hh rz AH g0 g1 (by omega),?_⟩
    have hlen:((es.drop l.toNat).take (u.toNat-l.toNat)).l.length=u.toNat-l.toNat:=by rw[ai.iW,ai.kh];simp only[List.length_take,List.length_drop];omega
    refine⟨_,cap-l.toNat,by rw[hlen],by omega,?_⟩
    rw[ai.iW,ai.kh]
    by_cases hlu:l=u
    ·left
     subst hlu
     simp
    ·rcases gy with gy|⟨b,off,arr,ty,fz,ha,hI,hf,hh,hE⟩
     ·rw[gy]at g2;simp at g2;omega
     ·right
      subst ha
      refine⟨b,off+l.toNat*sz,arr,ty,fz,?_,hI,hf,hh,Mb (Kn hE)⟩
      rw[if_neg (by omega)]
      simp[Fu]
   ·exact h.elim
  case all r=>
   split at h
   ·rename_i box ty sz es hR
    split at h
    ·rename_i l u hl hh
     try rw[<-ai.iq]at hh
     simp only[dd,aE,decide_eq_true_eq,<-ai.iq]at h
     obtain⟨⟨⟨h1,h0⟩,g0,g1,g2⟩,h⟩:=h
     have h1:=bE h1
     have h0:0<iF:=lE h0
     subst h1
     refine⟨_,h,λc w v ρ hm hA hv rz AH=>?_⟩
     obtain⟨row,k1,k2,hv⟩:=hv
     have:=hA r row _ k1 hR
     subst this
     rcases hv with⟨hV,a,hv,CH⟩|⟨hV,cap,arr,hv,k3,k4,k5,k6⟩
     ·have he:=(hm.nA k1 hV).2.1
      simp only at he
      rw[he]at g2 hh
      simp at g2
      subst hv
      refine⟨_,sl a 0 0 l u c w ρ h0 hl hh rz AH g0 g1 (by omega),_,k1,k2,by simp only[he,dE];omega,.inl ⟨by omega,a,?_,.inl CH⟩⟩
      rw[if_pos (by omega)]
      simp;omega
     subst hv
     simp only at*
     refine⟨_,sl _ _ cap l u c w ρ h0 hl hh rz AH g0 g1 (by omega),_,k1,k2,by simp only;omega,?_⟩
     by_cases jm:cap=l.toNat
     ·left
      exact⟨by omega,some ⟨c.ρ r,0,none⟩,by rw[if_pos jm,show u.toNat-l.toNat=0 by omega,show cap-l.toNat=0 by omega],.inr ⟨hV,λx hx=>by cases hx;rfl⟩⟩
     ·right
      refine⟨hV,cap-l.toNat,arr,by omega,by omega,k5,by rw[if_neg jm];simp[Fu],?_⟩
      rw[<-k6];congr 1;omega
    ·exact h.elim
   ·exact h.elim
  case own r o m=>
   split at h
   ·rename_i box ty sz es hR
    split at h
    ·rename_i l u hl hh
     try rw[<-ai.iq]at hh
     simp only[dd,aE,decide_eq_true_eq,<-ai.iq]at h
     obtain⟨⟨⟨h1,h0⟩,g0,g1,g2⟩,h⟩:=h
     have h1:=bE h1
     have h0:0<iF:=lE h0
     subst h1
     refine⟨_,h,λc w v ρ hm hA hv rz AH=>?_⟩
     obtain⟨row,k1,k2,k5,hv⟩:=hv
     have:=hA r row _ k1 hR
     subst this
     simp only at*
     rcases hv with⟨k7,a,hv,CH⟩|⟨hV,cap,arr,k3,k4,k6,hv,k7⟩
     ·subst hv
      subst k7
      refine⟨_,sl a 0 0 l u c w ρ h0 hl hh rz AH g0 g1 (by omega),_,k1,k2,by simp only;omega,.inl ⟨by omega,a,?_,CH⟩⟩
      rw[if_pos (by omega)]
      simp;omega
     ·subst hv
      refine⟨_,sl _ _ cap l u c w ρ h0 hl hh rz AH g0 g1 (by omega),_,k1,k2,by simp only;omega,?_⟩
      by_cases jm:cap=l.toNat
      ·left
       exact⟨by omega,some ⟨c.ρ r,o*sz,none⟩,by rw[if_pos jm,show u.toNat-l.toNat=0 by omega,show cap-l.toNat=0 by omega],.inr ⟨hV,λx hx=>by cases hx;rfl⟩⟩
      ·right
       refine⟨hV,cap-l.toNat,arr,by omega,by omega,k6,by rw[if_neg jm];simp[Fu,Nat.add_mul],?_⟩
       simp only
       rw[<-k7];congr 1;omega
    ·exact h.elim
   ·exact h.elim
 ·rename_i len e iF _ _ _ _ _ ht
  have hk:=mK hT ht
  simp only at hk
  obtain⟨hu,fp⟩:=hk
  cases x
  case im sz es i off=>
   split at h
   ·rename_i heq
    cases heq
    split at h
    ·rename_i k _ _ _ _ _ he
     simp only[dd,aE]at h
     obtain⟨⟨h1,h2,h3⟩,h⟩:=h
     have h1:=bE h1
     have h2:=lE h2
     subst h1
     refine⟨_,h,λc w v ρ hm hA hv _ _=>?_⟩
     obtain⟨b,o,arr,ty,fz,hv,hI,hi,hh,hE⟩:=hv
     subst hv
     obtain⟨q1,q2⟩:=UI hE hi
     rw[ai.nn es (by rw[<-ai.iq];exact hi)]at q1 q2
     have hlen:(ai.ints k (ints (es.get i) off len)).l.length=len:=by simp[ai.l,Zhb]
     refine⟨.slice (some (if len=0 then⟨b,o+i*sz+off,none⟩else Addr.add ⟨b,o+i*sz+off,none⟩ (0*1))) len len,?_,⟨_,len,by rw[hlen],by rw[hlen];exact aX _,.inr ⟨b,o+i*sz+off,arr,ty,fz,?_,hI,(λhf=>by cases hf),hh,Zbd q2 (by omega) h3⟩⟩⟩
     ·simp only[Instr.sliceAt,Instr.sureAddr,Instr.sliceBounds,Sem.run_bind,run_underlying hu,Result.andThen_ok,Sem.run_pure,AF (fp▸Nat.zero_lt_one),fp,Option.map_none,fT]
     ·congr 1
      split
      ·rfl
      ·simp[Fu]
    ·exact h.elim
   ·exact h.elim
  all_goals exact h.elim
 ·exact h.elim
theorem zaG(hT:jg P T){t t':TypeId}{x:D}(h:sW T t x R K):
 ∃val,K val R/\∀c w v,Mem c w->mn c R->Rep c w x v->Gs P (Builtin.len_ #[t] t' #[v]) w c val:=by
 unfold sW at h
 split at h
 ·rename_i ht
  have hu:=mK hT ht
  simp only at hu
  cases x<;>simp only at h
  rename_i s
  refine⟨_,h,λc w v hm hA hv=>⟨_,?_,rfl⟩⟩
  rw[Rep.str.1 hv]
  have fp:(ByteArray.mk s.toArray).size=s.length:=by simp[ByteArray.size]
  have h0:(#[t]:Array TypeId)[0]?=some t:=rfl
  have h1:(#[Value.string ⟨s.toArray⟩]:Array Value)[0]?=some (Value.string ⟨s.toArray⟩):=rfl
  unfold Builtin.len_
  simp only[h0,h1,Sem.run_bind,run_underlying hu,Result.andThen_ok,goInt,fp,Sem.run_pure]
 ·rename_i e iF _ _ _ _ _ ht
  have hk:=mK hT ht
  simp only at hk
  obtain⟨hu,fp⟩:=hk
  have ln:∀(a:Option Addr) (n cap:Nat) (w:World),(Builtin.len_ #[t] t' #[.slice a n cap]).run P w=.ok (.int .i64 n) w:=by
   intro a n cap w
   simp[Builtin.len_,run_underlying hu,goInt]
  cases x<;>simp only at h
  case c7=>exact⟨_,h,λc w v hm hA hv=>⟨_,by rw[show v=_ from hv];exact ln _ _ _ w,rfl⟩⟩
  case emp=>exact⟨_,h,λc w v hm hA hv=>by obtain⟨a,hv,_⟩:=hv;subst hv;exact⟨_,ln _ _ _ w,rfl⟩⟩
  case sl sz es fr=>
   refine⟨_,h,λc w v hm hA hv=>?_⟩
   obtain⟨a,cap,hv,_⟩:=hv
   subst hv
   exact⟨_,ln _ _ _ w,by rw[ai.iq];rfl⟩
  case all r=>
   split at h
   ·rename_i box ty sz es hR
    refine⟨_,h,λc w v hm hA hv=>?_⟩
    obtain⟨row,k1,k2,hv⟩:=hv
    have:=hA r row _ k1 hR
    subst this
    rcases hv with⟨hV,a,hv,_⟩|⟨hV,cap,arr,hv,k3,k4,k5,k6⟩
    ·have he:=(hm.nA k1 hV).2.1
     simp only at he
     subst hv
     refine⟨_,ln _ _ _ w,?_⟩
     rw[<-ai.iq,he];rfl
    ·subst hv
     exact⟨_,ln _ _ _ w,by simp only[ai.iq];rfl⟩
   ·exact h.elim
  case own r o m=>
   refine⟨_,h,λc w v hm hA hv=>?_⟩
   obtain⟨row,k1,k2,k5,hv⟩:=hv
   rcases hv with⟨h0,a,hv,_⟩|⟨hV,cap,arr,k3,k4,k6,hv,k7⟩
   ·subst hv;subst h0;exact⟨_,ln _ _ _ w,rfl⟩
   ·subst hv;exact⟨_,ln _ _ _ w,rfl⟩
 ·exact h.elim
theorem jk.set{c:Ctx}{w:World}:∀{ds:List D} {vs:List Value} {d:D} {v:Value} (i:Nat),jk c w ds vs->dc c w d v->jk c w (ds.set i d) (vs.set i v)
 |[],[],_,_,_,h,_=>by simpa using h
 |[],_::_,_,_,_,h,_=>h.elim
 |_::_,[],_,_,_,h,_=>h.elim
 |a::ds,b::vs,d,v,0,h,hd=>⟨hd,h.2⟩
 |a::ds,b::vs,d,v,i+1,h,hd=>⟨h.1,jk.set i h.2 hd⟩
theorem jk.length{c:Ctx}{vs:List Value}(h:jk c w ds vs):ds.length=vs.length:=(Ei.1 h).1
theorem Rep.cells{c:Ctx}{d:D}(hd:d.isVal=true)(h:Rep c w d v):jk c w d.cells v.cells.toList:=by
 have one:∀d':D,dc c w d' v->jk c w [d'] v.cells.toList:=λd' h'=>by
  have h1:=h'.one
  have:v.cells= #[v]:=by cases v<;>first|rfl|(simp[Value.oneCell']at h1)
  rw[this]
  exact⟨h',trivial⟩
 cases d with
 |agg cs=>
  obtain⟨vs,hv,hr⟩:=h
  subst hv
  simpa[Value.cells,D.cells]using hr
 |dw ds=>simp[D.isVal]at hd
 |dead=>simp[D.isVal]at hd
 |_=>exact one _ h
theorem QD:∀{xs:List D} {ds:List D} {off:Nat},(kX ds off xs).length=ds.length
 |[],_,_=>rfl
 |x::xs,ds,off=>by unfold kX;rw[QD];simp
def pB:List Value->Nat->List Value->List Value
 |e,_,[]=>e
 |e,off,v::vs=>pB (e.set off v) (off+1) vs
theorem Z26{c:Ctx}{w:World}:∀{xs:List D} {us:List Value} {ds:List D} {vs:List Value} {off:Nat},jk c w ds vs->jk c w xs us->jk c w (kX ds off xs) (pB vs off us)
 |[],[],_,_,_,h,_=>h
 |[],_::_,_,_,_,_,h=>h.elim
 |_::_,[],_,_,_,_,h=>h.elim
 |x::xs,u::us,ds,vs,off,h,hx=>by unfold kX pB;exact Z26 (h.set off hx.1) hx.2
theorem Qug:∀(us:List Value) (k off:Nat) (cells:Array Value),
 ((us.zipIdx k).foldl (λcs (x:Value×Nat)=>cs.setIfInBounds (off+x.2) x.1) cells).toList=pB cells.toList (off+k) us
 |[],_,_,_=>by simp[pB]
 |u::us,k,off,cells=>by
  simp only[List.zipIdx_cons,List.foldl_cons,pB]
  rw[Qug us (k+1) off]
  simp[Array.toList_setIfInBounds,fP]
theorem Zl2(v:Value)(off:Nat)(cells:Array Value):
 (v.cells.zipIdx.foldl (λcs (x:Value×Nat)=>cs.setIfInBounds (off+x.2) x.1) cells).toList=pB cells.toList off v.cells.toList:=by
 rw[<-Array.foldl_toList,Array.toList_zipIdx]
 exact Qug v.cells.toList 0 off cells
theorem Zy{place:Nat->Option (Nat×Nat)}{ev:Operand->D}:∀{parts:List (Nat×Operand)} {ds:List D} {K:List D->Prop},FH place ev parts ds K->
 ∃ ot,K ot/\∀c w (ρ:Operand->Value) (cells:Array Value),jk c w ds cells.toList->(∀p∈parts,Rep c w (ev p.2) (ρ p.2))->
  ∃dq,Instr.fill place cells (parts.map λp=>(p.1,ρ p.2))=some dq/\jk c w ot dq.toList
 |[],ds,K,h=>⟨ds,D.ey.1 h,λc w ρ cells hr _=>⟨cells,rfl,hr⟩⟩
 |(i,x)::ps,ds,K,h=>by
  unfold FH at h
  split at h
  ·rename_i off n hp
   simp only[dd,aE]at h
   obtain⟨⟨⟨hv,hn⟩,hle⟩,h⟩:=h
   have hn:=bE hn
   have hle:=lE hle
   obtain⟨ot,hK,hr⟩:=Zy h
   refine⟨ot,hK,λc w ρ cells hc kY=>?_⟩
   have hx:=Rep.cells hv (kY (i,x) (by simp))
   have hlen:(ρ x).cells.size=n:=by rw[<-hn,hx.length];simp
   have fp:cells.size=ds.length:=by rw[hc.length];simp
   have eu:jk c w (kX ds off (ev x).cells) ((ρ x).cells.zipIdx.foldl (λcs (x:Value×Nat)=>cs.setIfInBounds (off+x.2) x.1) cells).toList:=by
    rw[Zl2];exact Z26 hc hx
   obtain⟨dq,h1,h2⟩:=hr c w ρ _ eu (λp hp=>kY p (by simp[hp]))
   refine⟨dq,?_,h2⟩
   simp only[fG,Instr.fill,hp]
   rw[if_neg (by simp;omega)]
   exact h1
  ·exact h.elim
theorem Zd8{d:D}(h:Zj v=some d)(c:Ctx)(w:World):dc c w d v:=by
 cases v<;>simp only[Zj]at h<;>first|(cases h;done)|skip
 case nilIface=>simp at h;subst h;rfl
 case nilFunc=>simp at h;subst h;rfl
 case bool b=>simp at h;subst h;rfl
 case int k n=>simp at h;subst h;rfl
 case string s=>simp at h;subst h;simp[dc]
 case pointer a=>cases a<;>simp at h;subst h;rfl
 case slice a n cp=>
  split at h
  all_goals first|(simp at h;subst h;simp_all [dc];done)|(simp_all;done)
theorem JC:∀{vs:List Value} {ds:List D},Bp vs=some ds->∀(c:Ctx) (w:World),jk c w ds vs
 |[],ds,h,c,w=>by simp[Bp]at h;subst h;trivial
 |v ::vs,ds,h,c,w=>by
  simp only[Bp]at h
  split at h
  ·rename_i d l h1 h2
   simp at h;subst h
   exact⟨Zd8 h1 c w,JC h2 c w⟩
  ·cases h
theorem Nf{d:D}(h:Gq v=some d)(c:Ctx)(w:World):Rep c w d v:=by
 have one:Zj v=some d->Rep c w d v:=λh=>by
  have:=Zd8 h c w
  cases d<;>first|exact this|trivial|exact this.elim
 cases v with
 |agg cs=>
  simp only[Gq,fF]at h
  obtain⟨ds,h1,h2⟩:=h
  subst h2
  exact⟨cs.toList,by simp,JC h1 c w⟩
 |_=>exact one h
theorem Hl(hT:jg P T){k:TK}{a b:Nat}{e:Bool}(h:T.get t=some ⟨k,a,b,cs,some z,e⟩):
 ∃i u,P.info? t=some i/\i.zero=some u/\Bp u.cells.toList=some z/\i.size=a/\i.bytes=b/\P.cellsOf t=a/\∀w,(zeroValue t).run P w=.ok u w:=by
 obtain⟨i,hi,hs,hb,hl,hk,hz,_⟩:=Qc (hT.get h)
 simp only at hz hs hb
 have hz:=hz.symm
 simp only[Option.bind_eq_some_iff]at hz
 obtain⟨u,hu,hz⟩:=hz
 refine⟨i,u,hi,hu,hz,hs,hb,by simp[Program.cellsOf,hi,hs],λw=>?_⟩
 simp[zeroValue,typeInfo,hi,hu]
theorem Zcl{P:Program}(w:World):∀(fs:List Field),(∀f∈fs,0<P.cellsOf f.type)->
 (fs.mapM λf=>do pure (f.offset,<-sizeOf f.type):Sem (List (Nat×Nat))).run P w=.ok (fs.map λf=>(f.offset,P.cellsOf f.type)) w
 |[],_=>rfl
 |f::fs,h=>by
  simp only[List.mapM_cons,Sem.run_bind,AF (h f (by simp)),Result.andThen_ok,Sem.run_pure,Zcl w fs (λg hg=>h g (by simp[hg])),fG]
theorem xT(hT:jg P T){parts:List (Nat×Operand)}(h:Ms T t parts ev R K):
 ∃val,K val R/\∀c w (ρ:Operand->Value),(∀p∈parts,Rep c w (ev p.2) (ρ p.2))->Gs P (Instr.build t (parts.map λp=>(p.1,ρ p.2)).toArray) w c val:=by
 unfold Ms at h
 split at h
 ·rename_i fs _ _ _ ds _ ht
  obtain⟨i,u,hi,hu,hz,_,_,_,hzero⟩:=Hl hT ht
  obtain⟨gs,hd,Nx⟩:=mK hT ht
  rw[dd]at h
  obtain⟨uw,h⟩:=h
  have uw:∀f∈gs.toList,0<P.cellsOf f.type:=λf hf=>by
   have:=List.all_eq_true.1 uw (f.offset,f.type,P.cellsOf f.type) (by rw[Nx];exact List.mem_map.2 ⟨f,hf,rfl⟩)
   exact lE this
  obtain⟨ot,hK,hr⟩:=Zy h
  refine⟨_,hK,λc w ρ kY=>?_⟩
  obtain⟨dq,h1,h2⟩:=hr c w ρ u.cells (JC hz c w) kY
  refine⟨.agg dq,?_,dq.toList,by simp,h2⟩
  have Zz:(gs.mapM λf=>do pure (f.offset,<-sizeOf f.type):Sem (Array (Nat×Nat))).run P w=.ok (gs.map λf=>(f.offset,P.cellsOf f.type)) w:=by
   have:=Zcl (P:=P) w gs.toList uw
   rw[<-bW (xs:=gs),List.mapM_toArray]
   simp only[Sem.run_map,this,Result.andThen_ok,bW]
   congr 1
   apply Array.ext'
   simp
  have DL:(λ(i:Nat)=>(gs.map λf=>(f.offset,P.cellsOf f.type))[i]?)=(λ(i:Nat)=>(fs[i]?).map λ(f:Nat×TypeId×Nat)=>(f.1,f.2.2)):=by
   funext i
   rw[Nx]
   simp
   cases gs[i]? <;>rfl
  unfold Instr.build
  simp only[Sem.run_bind,hzero,Result.andThen_ok,run_underlying hd,Zz]
  rw[DL]
  simp only[h1,Sem.run_pure]
 ·rename_i m e iF _ _ _ ds _ ht
  obtain⟨i,u,hi,hu,hz,_,_,_,hzero⟩:=Hl hT ht
  have hk:=mK hT ht
  simp only at hk
  rw[dd]at h
  obtain⟨h0,h⟩:=h
  have h0:0<iF:=lE h0
  obtain⟨ot,hK,hr⟩:=Zy h
  refine⟨_,hK,λc w ρ kY=>?_⟩
  obtain⟨dq,h1,h2⟩:=hr c w ρ u.cells (JC hz c w) kY
  refine⟨.agg dq,?_,dq.toList,by simp,h2⟩
  unfold Instr.build
  simp only[Sem.run_bind,hzero,Result.andThen_ok,run_underlying hk.1,AF (hk.2▸h0),hk.2]
  simp only[h1,Sem.run_pure]
 ·exact h.elim
def U4(c:Ctx)(w:World)(row:Row)(arr:Array Value):Prop:=
 0<row.sz/\if row.box then∃e,row.es=.gen [e]/\e.length=row.sz/\arr.size=row.sz/\kF c w e arr 0 else ik c.I w row.es.l arr 0 row.sz
def P3(P:Program)(x:Sem Value)(w:World)(c:Ctx)(k:Nat)(row:Row)(d:D):Prop:=
 ∃u arr,x.run P w=.ok u (w.alloc (.cells arr row.ty))/\U4 c w row arr/\(c.R k=none->Mem c w->Rep (c.add k row w.heap.size) (w.alloc (.cells arr row.ty)) d u)
theorem Zkv{c:Ctx}{w:World}:∀{ds:List D} {vs:List Value} {pre:List Value},jk c w ds vs->kF c w ds (pre++vs).toArray pre.length
 |[],_,_,_=>trivial
 |d::ds,[],_,h=>h.elim
 |d::ds,v::vs,pre,h=>by
  refine⟨⟨v,by simp,h.1⟩,?_⟩
  have:=Zkv (pre:=pre++[v]) h.2
  simpa using this
theorem ZA{c:Ctx}{vs:Array Value}(h0:0<sz)(hl:ds.length=sz)(h:jk c w ds vs.toList):U4 c w ⟨true,t,sz,.gen [ds]⟩ vs:=by
 refine⟨h0,?_⟩
 simp only[if_true]
 refine⟨ds,rfl,hl,by rw[<-hl,h.length];simp,?_⟩
 have:=Zkv (pre:=[]) h
 simpa using this
theorem ZB(P:Program)(t:TypeId)(v:Value)(w:World):(newVar t v).run P w=.ok ⟨w.heap.size,0,none⟩ (w.alloc (.cells v.cells t)):=rfl
theorem Zom(hT:jg P T){k:TK}{sz b:Nat}{e:Bool}(ht:T.get t=some ⟨k,sz,b,cs,some ds,e⟩)(h0:0<sz)(hl:ds.length=sz)(n:Nat)(c:Ctx)(w:World):
 P3 P (Instr.alloc t true (.tuple #[])) w c n ⟨true,t,sz,.gen [ds]⟩ (.ptr n 0 0):=by
 obtain⟨i,u,hi,hu,hz,_,_,_,hzero⟩:=Hl hT ht
 refine⟨.pointer (some ⟨w.heap.size,0,none⟩),u.cells,?_,ZA h0 hl (JC hz c w),λ_ _=>?_⟩
 ·simp only[Instr.alloc,Sem.run_bind,hzero,Result.andThen_ok,ZB,Sem.run_pure]
 ·exact⟨_,(Ctx.iY _ _ _ _).1,by simp[Ctx.add],by simp[ai.len],by simp[(Ctx.iY _ _ _ _).2]⟩
theorem xaG{d:D}(h0:0<sz)(hv:d.isVal=true)(hl:d.cells.length=sz)(n:Nat)(c:Ctx)(w:World)(hr:Rep c w d v):
 P3 P (Instr.box t v) w c n ⟨true,t,sz,.gen [d.cells]⟩ (.ptr n 0 0):=by
 refine⟨.pointer (some ⟨w.heap.size,0,none⟩),v.cells,?_,ZA h0 hl (Rep.cells hv hr),λ_ _=>?_⟩
 ·simp only[Instr.box,Sem.run_bind,ZB,Result.andThen_ok,Sem.run_pure]
 ·exact⟨_,(Ctx.iY _ _ _ _).1,by simp[Ctx.add],by simp[ai.len],by simp[(Ctx.iY _ _ _ _).2]⟩
theorem tX{I:ae}{w:World}:∀{cs:List D} {arr:Array Value} {off:Nat},oP I w cs arr off↔ ∀j,j<cs.length->∃v,arr[off+j]?=some v/\fy I w (cs.getD j .dead) v
 |[],arr,off=>by simp[DJ,DK]
 |d ::cs,arr,off=>by
  simp only[DJ,DK,tX (cs:=cs)]
  constructor
  ·rintro⟨h1,h2⟩ j hj
   cases j with
   |zero=>simpa using h1
   |succ j=>
    have:=h2 j (by simpa using hj)
    rw[show off+1+j=off+(j+1) by omega]at this
    simpa using this
  ·intro h
   refine⟨by simpa using h 0 (by simp),λj hj=>?_⟩
   have:=h (j+1) (by simpa using hj)
   rw[show off+(j+1)=off+1+j by omega]at this
   simpa using this
theorem tA{I:ae}{w:World}:∀{es:List (List D)} {arr:Array Value} {off sz:Nat},ik I w es arr off sz↔ ∀i,i<es.length->(es.getD i []).length=sz/\oP I w (es.getD i []) arr (off+i*sz)
 |[],arr,off,sz=>by simp[ra,pN]
 |e ::es,arr,off,sz=>by
  simp only[ra,pN,tA (es:=es)]
  constructor
  ·rintro⟨h1,h2,h3⟩ i hi
   cases i with
   |zero=>simpa using⟨h1,h2⟩
   |succ i=>
    have:=h3 i (by simpa using hi)
    rw[show off+sz+i*sz=off+(i+1)*sz by rw[bF];omega]at this
    simpa using this
  ·intro h
   have h0:=h 0 (by simp)
   simp at h0
   refine⟨h0.1,h0.2,λi hi=>?_⟩
   have:=h (i+1) (by simpa using hi)
   rw[show off+(i+1)*sz=off+sz+i*sz by rw[bF];omega]at this
   simpa using this
theorem Zcy{c:Ctx}{w:World}:∀{cs:List D} {arr:Array Value} {off:Nat},kF c w cs arr off↔ ∀j,j<cs.length->∃v,arr[off+j]?=some v/\dc c w (cs.getD j .dead) v
 |[],arr,off=>by simp[kF]
 |d ::cs,arr,off=>by
  simp only[kF,Zcy (cs:=cs)]
  constructor
  ·rintro⟨h1,h2⟩ j hj
   cases j with
   |zero=>simpa using h1
   |succ j=>
    have:=h2 j (by simpa using hj)
    rw[show off+1+j=off+(j+1) by omega]at this
    simpa using this
  ·intro h
   refine⟨by simpa using h 0 (by simp),λj hj=>?_⟩
   have:=h (j+1) (by simpa using hj)
   rw[show off+(j+1)=off+1+j by omega]at this
   simpa using this
theorem QE:∀{us vs:List Value} {off k:Nat},off+us.length<=vs.length->(pB vs off us)[k]?=if off<=k/\k<off+us.length then us[k-off]? else vs[k]?
 |[],vs,off,k,_=>by
  have:¬(off<=k/\k<off):=by omega
  simp[pB,this]
 |u ::us,vs,off,k,h=>by
  simp only[dD]at h
  unfold pB
  rw[QE (us:=us) (by simp;omega)]
  by_cases h1:off+1<=k/\k<off+1+us.length
  ·rw[if_pos h1,if_pos (by simp;omega)]
   rw[show k-off=(k-(off+1))+1 by omega]
   simp
  ·rw[if_neg h1]
   by_cases h2:k=off
   ·subst h2
    rw[if_pos (by simp)]
    simp only[fU,fV]
    rw[fW (by omega)]
   ·rw[if_neg (by simp;omega),fX (by omega)]
theorem U5:∀{us vs:List Value} {off:Nat},(pB vs off us).length=vs.length
 |[],_,_=>rfl
 |u::us,vs,off=>by unfold pB;rw[U5];simp
theorem Hz:∀{us vs:List D} {off k:Nat},off+us.length<=vs.length->(kX vs off us)[k]?=if off<=k/\k<off+us.length then us[k-off]? else vs[k]?
 |[],vs,off,k,_=>by
  have:¬(off<=k/\k<off):=by omega
  simp[kX,this]
 |u ::us,vs,off,k,h=>by
  simp only[dD]at h
  unfold kX
  rw[Hz (us:=us) (by simp;omega)]
  by_cases h1:off+1<=k/\k<off+1+us.length
  ·rw[if_pos h1,if_pos (by simp;omega)]
   rw[show k-off=(k-(off+1))+1 by omega]
   simp
  ·rw[if_neg h1]
   by_cases h2:k=off
   ·subst h2
    rw[if_pos (by simp)]
    simp only[fU,fV]
    rw[fW (by omega)]
   ·rw[if_neg (by simp;omega),fX (by omega)]
theorem dc.plain{c:Ctx}{d:D}(hp:d.plain=true)(h:dc c w d v):fy c.I w d v:=by
 cases d<;>(try(simp[D.plain]at hp;done))
 case bool=>exact se.2 h
 case int=>exact si.2 h
 case str=>exact sj.2 h
 case iw=>exact sk.2 h
 case c7=>exact sn.2 h
 case emp=>exact so.2 (let⟨a,g,_⟩:=h;⟨a,g⟩)
 obtain⟨a,cap,hv,hc,gy⟩:=h
 refine tC.2 ⟨a,cap,hv,hc,?_⟩
 rcases gy with gy|⟨b,off,arr,ty,fz,ha,hI,hf,hh,hE⟩
 ·exact .inl gy
 ·exact .inr ⟨b,off,arr,ty,fz,ha,hI,hh,S2.2 hE⟩
theorem Z1a{c:Ctx}{es:List (List D)}{arr:List Value}{xs:List D}(h:ik c.I w es arr.toArray 0 sz)(hi:i<es.length)(QF:off+xs.length<=sz)
 (hx:jk c w xs us) (hp:xs.all D.plain=true) (ha:i*sz+sz<=arr.length):ik c.I w (es.set i (kX (es.getD i []) off xs)) (pB arr (i*sz+off) us).toArray 0 sz:=by
 have hlen:=hx.length
 rw[tA]at h⊢
 intro k hk
 have we:k<es.length:=by simpa using hk
 obtain⟨h1,h2⟩:=h k we
 rw[tX]at h2
 by_cases oh:k=i
 ·subst oh
  have he:(es.set k (kX (es.getD k []) off xs)).getD k []=kX (es.getD k []) off xs:=by simp[aV,we]
  rw[he]
  refine⟨by rw[QD];exact h1,?_⟩
  rw[tX]
  intro j hj
  rw[QD,h1]at hj
  have hg:(kX (es.getD k []) off xs).getD j .dead=if off<=j/\j<off+xs.length then(xs.getD (j-off) .dead)else(es.getD k []).getD j .dead:=by
   simp only[aV]
   rw[Hz (by simp only[aV]at h1;omega)]
   split<;>rfl
  have hv:(pB arr (k*sz+off) us).toArray[0+k*sz+j]?=if off<=j/\j<off+xs.length then us[j-off]? else arr[k*sz+j]? :=by
   simp only[bH,bG]
   rw[QE (by omega)]
   by_cases hc:off<=j/\j<off+xs.length
   ·rw[if_pos (by omega),if_pos hc];congr 1;omega
   ·rw[if_neg (by omega),if_neg hc]
  rw[hg,hv]
  split
  ·rename_i hc
   have QG:j-off<us.length:=by omega
   have Zz:(xs.getD (j-off) .dead).plain=true:=by
    have hm:xs.getD (j-off) .dead∈xs:=by
     simp only[aV,aI (show j-off<xs.length by omega),aR]
     exact eT _
    exact List.all_eq_true.1 hp _ hm
   exact⟨us[j-off],aI QG,dc.plain Zz ((Ei.1 hx).2 _ _ (aI QG))⟩
  ·obtain⟨v,Jz,Mm⟩:=h2 j (by rw[h1];exact hj)
   exact⟨v,by simpa using Jz,Mm⟩
 ·have he:(es.set i (kX (es.getD i []) off xs)).getD k []=es.getD k []:=by
   simp[aV,fX (Ne.symm oh)]
  rw[he]
  refine⟨h1,?_⟩
  rw[tX]
  intro j hj
  obtain⟨v,Jz,Mm⟩:=h2 j hj
  refine⟨v,?_,Mm⟩
  simp only[bH,bG]at Jz⊢
  rw[QE (by omega),if_neg]
  ·exact Jz
  ·rw[h1]at hj
   rintro⟨g1,g2⟩
   rcases Nat.lt_or_gt_of_ne oh with bd|bd
   ·have:=bD sz (show k+1<=i by omega)
    rw[bF]at this
    omega
   ·have:=bD sz (show i+1<=k by omega)
    rw[bF]at this
    omega
theorem Z55{es:List (List D)}(h:ik I w es arr 0 sz)(h0:0<sz)(hi:i<es.length):i*sz+sz<=arr.size:=by
 obtain⟨h1,h2⟩:=tA.1 h i hi
 obtain⟨v,hv,_⟩:=tX.1 h2 (sz-1) (by omega)
 have:=(Array.getElem?_eq_some_iff.1 hv).1
 omega
def Ctx.jP(c:Ctx)(r:Nat)(row:Row):Ctx:={c with R:=λs=>if s=r then some row else c.R s}
theorem Sv(w:World)(g:Nat)(cs:Array Value):Fr (λb=>b=g) w (w.setRow g cs):=
 ⟨rfl,rfl,rfl,by simp[World.setRow],λb _ hb=>setRow_other w g b cs hb⟩
theorem Mem.write{c:Ctx}(hm:Mem c w){jD arr:Array Value}(hr:c.R r=some row)(hV:¬c.V r)(hh:w.heap[c.ρ r]?=some (.cells jD row.ty (0,0)))(fp:arr.size=jD.size)
 (h1:ao.box=row.box) (h2:ao.ty=row.ty) (h3:ao.sz=row.sz) (h4:ao.es.l.length=row.es.l.length):
 ja c w (c.jP r ao) (w.setRow (c.ρ r) arr)/\(U4 (c.jP r ao) (w.setRow (c.ρ r) arr) ao arr->Mem (c.jP r ao) (w.setRow (c.ρ r) arr)):=by
 have eu:(w.setRow (c.ρ r) arr).heap[c.ρ r]?=some (.cells arr row.ty (0,0)):=setRow_heap w _ _ _ _ _ hh
 have r4:∀s x,c.R s=some x->¬c.V s->s≠r->(w.setRow (c.ρ r) arr).heap[c.ρ s]?=w.heap[c.ρ s]? :=λs x hs hv gq=>setRow_other w _ _ _ (λe=>gq (hm.inj s r x row hs hr hv hV e))
 have hg:ja c w (c.jP r ao) (w.setRow (c.ρ r) arr):=by
  refine⟨rfl,aX _,λb hb=>⟨hb,setRow_other w _ _ _ (λe=>(hm.fe b hb).2 r row hr hV e.symm)⟩,λs x hs=>?_⟩
  by_cases e:s=r
  ·subst e
   rw[hr]at hs;cases hs
   exact⟨ao,by simp[Ctx.jP],h1,h2,h3,h4,rfl,Iff.rfl,λ_ a ha=>⟨arr,eu,by rw[hh]at ha;cases ha;exact fp⟩⟩
  ·exact⟨x,by simp[Ctx.jP,e,hs],rfl,rfl,rfl,rfl,rfl,Iff.rfl,λnv a ha=>⟨a,by rw[r4 s x hs nv e];exact ha,rfl⟩⟩
 refine⟨hg,λhi=>⟨λs x hs=>?_,λs q x y hs hq v1 v2 he=>?_,λb hb=>?_,by show c.top<=(w.setRow _ _).heap.size;simpa[World.setRow]using hm.top,hm.jU.mono hg.I⟩⟩
 ·by_cases e:s=r
  ·subst e
   simp only[Ctx.jP,if_true,Option.some.injEq]at hs
   subst hs
   exact .inr ⟨hV,arr,by rw[h2];exact eu,hi.1,hi.2⟩
  ·have iS:c.R s=some x:=by simpa[Ctx.jP,e]using hs
   exact tz hg rfl Iff.rfl (λnv=>r4 s x iS nv e) (hm.row s x iS)
 ·have jD:∀s x,(c.jP r ao).R s=some x->∃x',c.R s=some x':=λs x hs=>by
   by_cases e:s=r
   ·exact⟨row,by rw[e];exact hr⟩
   ·exact⟨x,by simpa[Ctx.jP,e]using hs⟩
  obtain⟨x',jJ⟩:=jD s x hs
  obtain⟨y',Ag⟩:=jD q y hq
  exact hm.inj s q x' y' jJ Ag v1 v2 he
 ·obtain⟨g1,g2⟩:=hm.fe b hb
  refine⟨by simpa[World.setRow]using g1,λs x hs hv=>?_⟩
  by_cases e:s=r
  ·subst e;exact g2 s row hr hV
  ·exact g2 s x (by simpa[Ctx.jP,e]using hs) hv
theorem Zmm(hs:P.cellsOf t=n)(h0:0<n){g o:Nat}{cur:Array Value}(hg:w.heap[g]?=some (.cells cur ty (0,0)))(hn:v.cells.size=n)(hr:o+n<=cur.size)(h1:∀u∈v.cells.toList,u.oneCell'=true):
 (Instr.storeAt t (.pointer (some ⟨g,o,none⟩)) v).run P w=.ok () (w.setRow g (pB cur.toList o v.cells.toList).toArray):=by
 have h:=run_storeCells_at (P:=P) g o ty v.cells.toList 0 cur w hg (by simp;omega) h1
 have gq:¬v.cells.size≠P.cellsOf t:=by omega
 simp only[Instr.storeAt,Instr.sureAddr,Sem.run_bind,Sem.run_pure,Result.andThen_ok,storeVar,AF (hs▸h0),Sem.run_ite,gq,if_false,h]
 congr 3
 apply fY
 intro k
 rw[QE (by simp;omega)]
 simp only[aB,Array.length_toList]
 by_cases hc:o<=k/\k<o+v.cells.size
 ·rw[if_pos hc,aM,bJ (by simp;omega),bI (by simp;omega)]
  congr 1;simp;omega
 ·rw[if_neg hc]
  by_cases hk:k<o
  ·rw[aM,bI (by simp;omega),List.getElem?_take_of_lt hk]
  ·rw[bJ (by simp;omega),List.getElem?_drop]
   congr 1;simp;omega
theorem jk.one{c:Ctx}{w:World}:∀{ds:List D} {vs:List Value},jk c w ds vs->∀u∈vs,u.oneCell'=true
 |[],[],_,_,h=>by simp at h
 |d::ds,v::vs,h,u,hu=>by
  rcases List.mem_cons.1 hu with e|e
  ·subst e;exact dc.one h.1
  ·exact jk.one h.2 u e
theorem Zlb{c:Ctx}{arr:List Value}{xs:List D}(h:kF c w e arr.toArray 0)(QF:off+xs.length<=e.length)(he:e.length=arr.length)
 (hx:jk c w xs us):kF c w (kX e off xs) (pB arr off us).toArray 0:=by
 have hlen:=hx.length
 rw[Zcy]at h⊢
 intro j hj
 rw[QD]at hj
 simp only[aV,bH,bG]at h⊢
 rw[Hz QF,QE (by omega)]
 by_cases hc:off<=j/\j<off+xs.length
 ·rw[if_pos hc,if_pos (by omega)]
  have QG:j-off<us.length:=by omega
  exact⟨us[j-off],aI QG,(Ei.1 hx).2 _ _ (aI QG)⟩
 ·rw[if_neg hc,if_neg (by omega)]
  exact h j hj
def sX(P:Program)(x:Sem Unit)(w:World)(c:Ctx)(R':Rows):Prop:=
 ∃r ao arr w',x.run P w=.ok () w'/\w'=w.setRow (c.ρ r) arr/\(∃row,c.R r=some row)/\¬c.V r/\ja c w (c.jP r ao) w'/\Mem (c.jP r ao) w'/\∀s,(c.jP r ao).R s=R'.getD s none
theorem Zc1{k:IntKind}{l:List Int}:∀{n j i:Nat},i<n->(HA k l j n)[i]?=some (.int k (l.getD (j+i) 0))
 |n+1,j,0,_=>by simp[HA]
 |n+1,j,i+1,h=>by
  have:=Zc1 (k:=k) (l:=l) (n:=n) (j:=j+1) (i:=i) (by omega)
  rw[show j+1+i=j+(i+1) by omega]at this
  simpa[HA]using this
theorem ZC{k:IntKind}{l:List Int}:∀{n j:Nat},(HA k l j n).length=n
 |0,_=>rfl
 |n+1,j=>by simp[HA,ZC (n:=n)]
theorem Zbs{l:List Bool}:∀{n j i:Nat},i<n->(HB l j n)[i]?=some (.bool (l.getD (j+i) false))
 |n+1,j,0,_=>by simp[HB]
 |n+1,j,i+1,h=>by
  have:=Zbs (l:=l) (n:=n) (j:=j+1) (i:=i) (by omega)
  rw[show j+1+i=j+(i+1) by omega]at this
  simpa[HB]using this
theorem ZD{l:List Bool}:∀{n j:Nat},(HB l j n).length=n
 |0,_=>rfl
 |n+1,j=>by simp[HB,ZD (n:=n)]
theorem Z5i{e:List D}:∀{n off:Nat},(ints e off n).length=n
 |0,_=>rfl
 |n+1,off=>by simp[ints,Z5i (n:=n)]
theorem Z1f{e:List D}:∀{n off:Nat},(ag e off n).length=n
 |0,_=>rfl
 |n+1,off=>by simp[ag,Z1f (n:=n)]
theorem Ew(h:R.getD r none=some row)(s:Nat):(R.set r (some ao)).getD s none=if s=r then some ao else R.getD s none:=by
 have bd:r<R.length:=by
  by_cases hl:r<R.length
  ·exact hl
  ·rw[aV,aJ (by omega)]at h;cases h
 by_cases e:s=r
 ·subst e
  simp[aV,bd]
 ·simp[aV,e,fX (Ne.symm e)]
theorem Zpe(ko:P.cellsOf t=n)(h0:0<n){box:Bool}{es iT:ai}{d:D}
 (hR:R.getD r none=some ⟨box,ty,sz,es⟩) (hv:d.isVal=true) (hn:d.cells.length=n) (hle:off+n<=sz) (hp:box=false->d.cells.all D.plain=true)
 {c:Ctx} {w:World} {v:Value} (hm:Mem c w) (hA:∀r,c.R r=R.getD r none) (hV:¬c.V r) (hi:i<es.l.length) (gy:iT.l=es.l.set i (kX (es.l.getD i []) off d.cells)) (wM:box=true->iT=.gen [kX (es.get i) off d.cells]) (hd:Rep c w d v):
 sX P (Instr.storeAt t (.pointer (some ⟨c.ρ r,i*sz+off,none⟩)) v) w c (R.set r (some ⟨box,ty,sz,iT⟩)):=by
 have g1:c.R r=some ⟨box,ty,sz,es⟩:=by rw[hA];exact hR
 have hx:=Rep.cells hv hd
 obtain⟨jD,ho,hs,hb⟩:=hm.real g1 hV
 have hvn:v.cells.size=n:=by rw[<-hn,hx.length];simp
 simp only at ho hs hb
 have fin:∀ao:Row,ao=⟨box,ty,sz,iT⟩->i*sz+off+n<=jD.size->
  (∀c' w',ja c w c' w'->if ao.box then∃e,ao.es=.gen [e]/\e.length=ao.sz/\(pB jD.toList (i*sz+off) v.cells.toList).toArray.size=ao.sz/\kF c' w' e (pB jD.toList (i*sz+off) v.cells.toList).toArray 0
   else ik c'.I w' ao.es.l (pB jD.toList (i*sz+off) v.cells.toList).toArray 0 ao.sz)->sX P (Instr.storeAt t (.pointer (some ⟨c.ρ r,i*sz+off,none⟩)) v) w c (R.set r (some ao)):=by
  intro ao cz fp eu
  have ij:=Zmm (P:=P) ko h0 (o:=i*sz+off) ho hvn fp hx.one
  have M5:(pB jD.toList (i*sz+off) v.cells.toList).toArray.size=jD.size:=by simp[U5]
  have hw:=hm.write (ao:=ao) g1 hV ho M5 (by rw[cz]) (by rw[cz]) (by rw[cz]) (by rw[cz];simp only[gy,List.length_set])
  refine⟨r,ao,_,_,ij,rfl,⟨_,g1⟩,hV,hw.1,hw.2 ⟨by rw[cz];exact hs,eu _ _ hw.1⟩,λs=>?_⟩
  rw[Ew hR]
  simp only[Ctx.jP]
  split
  ·rfl
  ·exact hA s
 cases box with
 |true=>
  simp only[if_true]at hb
  obtain⟨e,k1,k2,k3,k4⟩:=hb
  rw[k1]at hi gy wM
  have pE:i=0:=by simpa[ai.l]using hi
  subst pE
  simp only[fZ,bG]at fin⊢
  refine fin _ rfl (by omega) λc' w' hg=>?_
  simp only[if_true]
  refine⟨kX e off d.cells,wM rfl,by rw[QD];exact k2,by simp[U5,k3],Nl hg (Zlb (by simpa using k4) (by omega) (by simp;omega) hx)⟩
 |false=>
  simp only[aA,if_false]at hb
  have kO:=Z55 hb hs hi
  refine fin _ rfl (by omega) λc' w' hg=>?_
  simp only[aA,if_false]
  rw[gy]
  exact nC hg.I _ _ _ _ (Z1a (c:=c) (by simpa using hb) hi (by omega) hx (hp rfl) (by simpa using kO))
theorem qaH{v:Int}(h:CS k e off len=true)(hl:off+len<=e.length)(hn:n<len):
 kX e off (HA k ((ints e off len).set n v) 0 len)=kX e (off+n) [.int k v]:=by
 apply fY
 intro j
 rw[Hz (by rw[ZC];omega),Hz (by simp;omega)]
 simp only[ZC,dD,dE]
 by_cases h1:off<=j/\j<off+len
 ·rw[if_pos h1,Zc1 (by omega)]
  by_cases h2:j=off+n
  ·subst h2
   rw[if_pos (by omega)]
   simp[aV,Z5i,show off+n-off=n by omega,hn]
  ·rw[if_neg (by omega)]
   have hg:=UL (e:=e) (off:=off) (show j-off<len by omega)
   have hi:=D.ka (UN h (show j-off<len by omega))
   rw[show off+(j-off)=j by omega]at hg hi
   have hj:e[j]?=some e[j]:=aI (by omega)
   simp only[aV,hj,aR]at hg hi
   rw[hj]
   simp only[aV,bG]
   rw[fX (by omega)]
   rw[hg,<-hi]
 ·rw[if_neg h1,if_neg (by omega)]
theorem qar{v:Bool}(h:Hu e off len=true)(hl:off+len<=e.length)(hn:n<len):
 kX e off (HB ((ag e off len).set n v) 0 len)=kX e (off+n) [.bool v]:=by
 apply fY
 intro j
 rw[Hz (by rw[ZD];omega),Hz (by simp;omega)]
 simp only[ZD,dD,dE]
 by_cases h1:off<=j/\j<off+len
 ·rw[if_pos h1,Zbs (by omega)]
  by_cases h2:j=off+n
  ·subst h2
   rw[if_pos (by omega)]
   simp[aV,Z1f,show off+n-off=n by omega,hn]
  ·rw[if_neg (by omega)]
   have hg:=UM (e:=e) (off:=off) (show j-off<len by omega)
   have hi:=D.kb (UO h (show j-off<len by omega))
   rw[show off+(j-off)=j by omega]at hg hi
   have hj:e[j]?=some e[j]:=aI (by omega)
   simp only[aV,hj,aR]at hg hi
   rw[hj]
   simp only[aV,bG]
   rw[fX (by omega)]
   rw[hg,<-hi]
 ·rw[if_neg h1,if_neg (by omega)]
theorem Zs5(hT:jg P T){x d:D}(h:HC T t x d R K):
    ∃R',K .dead R'/\ ∀c w a v,Mem c w->(∀r,c.R r=R.getD r none)->Rep c w x a->Rep c w d v->sX P (Instr.storeAt t a v) w c R':=by
  unfold HC at h
  cases ht:T.get t with
  |none=>simp only[ht]at h
  | some ti =>
    simp only[ht]at h
    obtain⟨i0,pE,BJ,_,Ko,Ah,_⟩:=Qc (hT.get ht)
    have ko:P.cellsOf t=ti.size:=by simp [Program.cellsOf,pE,BJ]
    cases x<;>simp only at h
    case ptr r i off=>
      cases hR:R.getD r none with
      |none=>simp only[hR]at h
      | some row=>
        obtain⟨box,ty,sz,es⟩:=row
        simp only[hR,dd,aE]at h
        obtain⟨⟨⟨⟨h0,hv⟩,hn⟩,hle⟩,h⟩:=h
        have h0:0<ti.size:=lE h0
        have hn:=bE hn
        have hle:=lE hle
        have go: ∀iT:ai,(box=false->d.cells.all D.plain=true)-> ∀c w a v,Mem c w->(∀r,c.R r=R.getD r none)->Rep c w (.ptr r i off) a->Rep c w d v->
            (∃row:Row,c.R r=some row/\row=⟨box,ty,sz,es⟩/\ ¬c.V r/\i<es.l.length)/\(iT.l=es.l.set i (kX (es.l.getD i []) off d.cells)->(box=true->iT= .gen [kX (es.get i) off d.cells])->sX P (Instr.storeAt t a v) w c (R.set r (some ⟨box,ty,sz,iT⟩))):=by
          intro iT hp c w a v hm hA ha hd
          obtain⟨row,g1,gV,g2,ha⟩:=ha
          have cz:row=⟨box,ty,sz,es⟩:=by rw[hA,hR]at g1;exact(Option.some.inj g1).symm
          subst cz
          subst ha
          exact⟨⟨_,g1,rfl,gV,g2⟩,λhe wM=>Zpe ko h0 hR hv hn hle hp hm hA gV g2 he wM hd⟩
        cases box with
        | true=>
          simp only[D.ey,nm]at h
          refine⟨_,h,λc w a v hm hA ha hd=> ?_⟩
          obtain⟨⟨row,g1,cz,gV,g2⟩,hw⟩:=go (.gen [kX (es.get i) off d.cells]) (by simp) c w a v hm hA ha hd
          subst cz
          obtain⟨jD,ho,hs,hb⟩:=hm.real g1 gV
          simp only[if_true]at hb
          obtain⟨e,k1,k2,k3,k4⟩:=hb
          have ir:=ai.nn es (show i<es.len by simpa using g2)
          refine hw ?_ (λ_=>rfl)
          rw[<-ir,k1]
          rw[k1]at g2
          have pE:i=0:=by simpa [ai.l] using g2
          subst pE
          rfl
        | false=>
          simp only[nm]at h
          refine⟨_,h.2,λc w a v hm hA ha hd=> ?_⟩
          obtain⟨⟨row,g1,cz,gV,g2⟩,hw⟩:=go _ (λ_=>h.1) c w a v hm hA ha hd
          exact hw (by rw[ai.QH,ai.nn es (show i<es.len by simpa using g2)]) (by simp)
    case pa r i off len k n=>
      cases hR:R.getD r none with
      |none=>simp only[hR]at h
      | some row=>
        obtain⟨box,ty,sz,es⟩:=row
        simp only[hR,dd,aE]at h
        obtain⟨⟨FG,hle⟩,h⟩:=h
        subst FG
        have hle:=lE hle
        have go: ∀(x:D) (xs:List D),x.isVal=true->x.cells=[x]->ti.size=1->(n<len->off+len<=(es.get i).length->kX (es.get i) off xs=kX (es.get i) (off+n) [x])-> ∀c w a v,Mem c w->(∀r,c.R r=R.getD r none)->Rep c w (.pa r i off len k n) a->Rep c w x v->
            sX P (Instr.storeAt t a v) w c (R.set r (some ⟨true,ty,sz, .gen [kX (es.get i) off xs]⟩)):=by
          intro x xs hv hc fp heq c w a v hm hA ha hd
          obtain⟨hn,row,g1,gV,g2,ha⟩:=ha
          have cz:row=⟨true,ty,sz,es⟩:=by rw[hA,hR]at g1;exact(Option.some.inj g1).symm
          subst cz
          subst ha
          obtain⟨jD,ho,hs,hb⟩:=hm.real g1 gV
          simp only[if_true]at hb
          obtain⟨e,k1,k2,k3,k4⟩:=hb
          simp only at g2
          have ir:=ai.nn es (show i<es.len by simpa using g2)
          have hlen:(es.get i).length=sz:=by
            rw[<-ir,k1]
            rw[k1]at g2
            have pE:i=0:=by simpa [ai.l] using g2
            subst pE
            exact k2
          refine Zpe (off:=off+n) ko (by omega) hR hv (by rw[hc,fp];rfl) (by omega) (by simp) hm hA gV g2 ?_ (λ_=>by rw[hc,heq hn (by omega)]) hd
          rw[ir,hc,heq hn (by omega)]
          rw[k1]at g2⊢
          have pE:i=0:=by simpa [ai.l] using g2
          subst pE
          rfl
        split at h
        . rename_i j k' k'' v hk
          simp only[decide_eq_true_eq,D.ey,nm]at h
          obtain⟨⟨⟨rfl,rfl⟩,iM⟩,h⟩:=h
          refine⟨_,h,λc w a u hm hA ha hd=>go (.int _ v) _ rfl rfl (UP (hT.get ht) (by rw[hk];simp [TK.isAgg])) (λhn hl=>qaH iM hl hn) c w a u hm hA ha hd⟩
        . rename_i v hk
          simp only[D.ey,nm]at h
          obtain⟨iM,h⟩:=h
          refine⟨_,h,λc w a u hm hA ha hd=>go (.bool v) _ rfl rfl (UP (hT.get ht) (by rw[hk];simp [TK.isAgg])) (λhn hl=>qar iM hl hn) c w a u hm hA ha hd⟩
        . exact h.elim
def sv:D->Value
 |.int k n=>.int k n
 |.bool b=>.bool b
 |.str s=>.string ⟨s.toArray⟩
 |_=>undef
def pU(xs:Array Value)(o:Nat)(az:List D):Prop:=∀j d,az[j]?=some d->xs[o+j]?=some (sv d)
theorem QI:∀{t u:List sq} {l:List D},fits (t++u) l=true->∃a b,l=a++b/\fits t a=true/\fits u b=true/\a.length=t.length
 |[],u,l,h=>⟨[],l,rfl,rfl,h,rfl⟩
 |c::t,u,[],h=>by cases c<;>simp[fits]at h
 |c ::t,u,d::l,h=>by
  cases c<;>simp only[cH,fits,aE,aA]at h
  all_goals
   obtain⟨a,b,h1,h2,h3,h4⟩:=QI h.2
   exact⟨d::a,b,by rw[h1];rfl,by simp[fits,h.1,h2],h3,by simp[h4]⟩
theorem sS:∀{t:List sq} {l:List D},fits t l=true->l.length=t.length
 |[],[],_=>rfl
 |[],_::_,h=>by simp[fits]at h
 |c::t,[],h=>by cases c<;>simp[fits]at h
 |c::t,d::l,h=>by
  cases c<;>simp only[fits,aE,aA]at h
  all_goals simp[sS h.2]
theorem ZE:∀{a b a' b':List D},a.length=b.length->eqs (a++a') (b++b')=(eqs a b&&eqs a' b')
 |[],[],_,_,_=>by simp[eqs]
 |x::a,y::b,a',b',h=>by
  simp only[cH,eqs]
  rw[ZE (by simpa using h),Bool.and_assoc]
theorem Q7(hd:P.underlying t=some d)(ha:PZ d=false)(hv:xs[o]?=some v)(w:World):(part t xs o).run P w=.ok v w:=by
 unfold part
 rw[Sem.run_bind,Y2 hd,Ml hd,ha,Result.andThen_ok]
 simp[hv]
theorem UT(hd:P.underlying t=some d)(ha:PZ d=true)(h0:0<P.cellsOf t)(xs:Array Value)(o:Nat)(w:World):
 (part t xs o).run P w=.ok (.agg (xs.extract o (o+P.cellsOf t))) w:=by
 unfold part
 rw[Sem.run_bind,Y2 hd,Ml hd,ha,Result.andThen_ok]
 simp only[if_true,Sem.run_bind,AF h0,Result.andThen_ok,Sem.run_pure]
theorem pU.extract{az:List D}(h:pU xs o az)(hn:az.length<=n):pU (xs.extract o (o+n)) 0 az:=by
 intro j d hj
 have bd:=(List.getElem?_eq_some_iff.1 hj).1
 have:=h j d hj
 have hx:=(Array.getElem?_eq_some_iff.1 this).1
 simp only[bG,Array.getElem?_extract]
 rw[if_pos (by omega)]
 exact this
theorem pU.left{a b:List D}(h:pU xs o (a++b)):pU xs o a:=λj d hj=>h j d (by rw[bI (List.getElem?_eq_some_iff.1 hj).1];exact hj)
theorem pU.right{a b:List D}(h:pU xs o (a++b)):pU xs (o+a.length) b:=λj d hj=>by
 rw[fP];exact h (a.length+j) d (by rw[bJ (by omega)];simpa using hj)
def oD(t:TypeId)(m:Nat)(xs ys:Array Value)(o:Nat):Sem Bool:=do
 let a<-part t xs o
 let b<-part t ys o
 Op.equalIn m t a b
theorem Zc3{P:Program}{n m:Nat}(ih:∀t,rB P n t=true->P.cellsOf t=(mh P n t).length->0<P.cellsOf t->∀(xs ys:Array Value) (o:Nat) (az bs:List D) (w:World),fits (mh P n t) az=true->fits (mh P n t) bs=true->pU xs o az->pU ys o bs->
 (oD t m xs ys o).run P w=.ok (eqs az bs) w):
 ∀ (fs:List Field) (o:Nat) (az bs:List D) (xs ys:Array Value) (w:World),UG P (rB P n) (λu=>(mh P n u).length) fs o=true->fits (fs.flatMap λf=>mh P n f.type) az=true->fits (fs.flatMap λf=>mh P n f.type) bs=true->
  pU xs o az->pU ys o bs->(Op.eqFields m xs ys fs).run P w=.ok (eqs az bs) w
 |[],o,az,bs,xs,ys,w,_,ha,hb,_,_=>by
  have h1:=sS ha
  have h2:=sS hb
  simp at h1 h2
  subst h1;subst h2
  simp[Op.eqFields,eqs]
 |f ::fs,o,az,bs,xs,ys,w,ho,ha,hb,sa,sb=>by
  simp only[UG,aE]at ho
  obtain⟨⟨⟨⟨⟨h1,h2⟩,h3⟩,h4⟩,h5⟩,h6⟩:=ho
  have h2:=bE h2
  have h3:=bE h3
  have h4:0<(mh P n f.type).length:=lE h4
  simp only[List.flatMap_cons]at ha hb
  obtain⟨a1,a2,rfl,ZF,ZG,la⟩:=QI ha
  obtain⟨b1,b2,rfl,ZH,ZI,lb⟩:=QI hb
  have iU:=ih f.type h5 h3 (by omega) xs ys o a1 b1 w ZF ZH sa.left sb.left
  have wU:=Zc3 ih fs (o+(mh P n f.type).length) a2 b2 xs ys w h6 ZG ZI (by rw[<-la];exact sa.right) (by rw[<-lb];exact sb.right)
  have gq:f.name≠ "_" :=by simpa using h1
  simp only[Op.eqFields,gq,ne_eq,not_false_eq_true,if_true,h2]
  unfold oD at iU
  rw[ZE (by omega)]
  rw[Sem.run_bind]at iU⊢
  cases hp:(part f.type xs o).run P w with
  |halt x w1=>rw[hp]at iU;simp at iU
  |ok a w1=>
   rw[hp]at iU
   simp only[Result.andThen_ok,Sem.run_bind]at iU⊢
   cases hq:(part f.type ys o).run P w1 with
   |halt x w2=>rw[hq]at iU;simp at iU
   |ok b w2=>
    rw[hq]at iU
    simp only[Result.andThen_ok]at iU⊢
    rw[iU]
    simp only[Result.andThen_ok]
    cases he:eqs a1 b1 with
    |true=>simpa[he]using wU
    |false=>simp
theorem Zgx{P:Program}{n m:Nat}{e:TypeId}{k:Nat}(hk:P.cellsOf e=k)(hl:(mh P n e).length=k)(ih:∀(xs ys:Array Value) (o:Nat) (az bs:List D) (w:World),fits (mh P n e) az=true->fits (mh P n e) bs=true->pU xs o az->pU ys o bs->
 (oD e m xs ys o).run P w=.ok (eqs az bs) w):
 ∀ (len i:Nat) (az bs:List D) (xs ys:Array Value) (w:World),fits (cO len (mh P n e)).flatten az=true->fits (cO len (mh P n e)).flatten bs=true->pU xs (i*k) az->pU ys (i*k) bs->
  (do
   let r<-forIn (List.range' i len) ((none,()):Option Bool×Unit) λj _=>do
    let a<-part e xs (j*k)
    let b<-part e ys (j*k)
    let q<-Op.equalIn m e a b
    if(!q)=true then pure (ForInStep.done (some false,()))else pure (ForInStep.yield (none,()))
   match r.1 with
   |some a=>pure a
   |none=>pure true:Sem Bool).run P w=.ok (eqs az bs) w
 |0,i,az,bs,xs,ys,w,ha,hb,_,_=>by
  have h1:=sS ha
  have h2:=sS hb
  simp at h1 h2
  subst h1;subst h2
  simp[eqs]
 |len + 1,i,az,bs,xs,ys,w,ha,hb,sa,sb=>by
  simp only[List.replicate_succ,List.flatten_cons]at ha hb
  obtain⟨a1,a2,rfl,ZF,ZG,la⟩:=QI ha
  obtain⟨b1,b2,rfl,ZH,ZI,lb⟩:=QI hb
  have iU:=ih xs ys (i*k) a1 b1 w ZF ZH sa.left sb.left
  have wU:=Zgx hk hl ih len (i+1) a2 b2 xs ys w ZG ZI (by rw[bF];have:=sa.right;rwa [la,hl]at this) (by rw[bF];have:=sb.right;rwa [lb,hl]at this)
  unfold oD at iU
  rw[ZE (by omega)]
  simp only[List.range'_succ,List.forIn_cons,Sem.run_bind]at iU⊢
  cases hp:(part e xs (i*k)).run P w with
  |halt x w1=>rw[hp]at iU;simp at iU
  |ok a w1=>
   rw[hp]at iU
   simp only[Result.andThen_ok]at iU⊢
   cases hq:(part e ys (i*k)).run P w1 with
   |halt x w2=>rw[hq]at iU;simp at iU
   |ok b w2=>
    rw[hq]at iU
    simp only[Result.andThen_ok]at iU⊢
    rw[iU]
    simp only[Result.andThen_ok]
    cases he:eqs a1 b1 with
    |true=>
     simp only[Sem.run_bind]at wU
     simpa[he]using wU
    |false=>simp
theorem Y8{P:Program}:∀(n:Nat) (t:TypeId) (m:Nat),n<=m->rB P n t=true->P.cellsOf t=(mh P n t).length->0<P.cellsOf t->∀(xs ys:Array Value) (o:Nat) (az bs:List D) (w:World),
 fits (mh P n t) az=true->fits (mh P n t) bs=true->pU xs o az->pU ys o bs->(oD t m xs ys o).run P w=.ok (eqs az bs) w
 |0,t,m,_,h,_,_,_,_,_,_,_,_,_,_,_,_=>by simp[rB]at h
 |n+1,t,0,hm,_,_,_,_,_,_,_,_,_,_,_,_,_=>by omega
 |n + 1,t,m+1,hm,h,hc,h0,xs,ys,o,az,bs,w,ha,hb,sa,sb=>by
  unfold rB at h
  split at h
  ·rename_i k hd
   simp only[mh,hd]at ha hb
   have h1:=sS ha;have h2:=sS hb
   obtain⟨x,rfl⟩:=List.length_eq_one_iff.1 h1
   obtain⟨y,rfl⟩:=List.length_eq_one_iff.1 h2
   simp only[fits,gA]at ha hb
   have hx:=sa 0 x rfl;have hy:=sb 0 y rfl
   rw[D.ka ha]at hx⊢
   rw[D.ka hb]at hy⊢
   simp only[sv,aB]at hx hy
   simp only[oD,Sem.run_bind,Q7 hd rfl hx,Q7 hd rfl hy,Result.andThen_ok,run_equalIn_int w m t k k _ _ hd,eqs,PD,gA]
  ·rename_i hd
   simp only[mh,hd]at ha hb
   have h1:=sS ha;have h2:=sS hb
   obtain⟨x,rfl⟩:=List.length_eq_one_iff.1 h1
   obtain⟨y,rfl⟩:=List.length_eq_one_iff.1 h2
   simp only[fits,gA]at ha hb
   have hx:=sa 0 x rfl;have hy:=sb 0 y rfl
   rw[D.kb ha]at hx⊢
   rw[D.kb hb]at hy⊢
   simp only[sv,aB]at hx hy
   simp only[oD,Sem.run_bind,Q7 hd rfl hx,Q7 hd rfl hy,Result.andThen_ok,run_equalIn_bool' w m t _ _ hd,eqs,PD,gA]
  ·rename_i hd
   simp only[mh,hd]at ha hb
   have h1:=sS ha;have h2:=sS hb
   obtain⟨x,rfl⟩:=List.length_eq_one_iff.1 h1
   obtain⟨y,rfl⟩:=List.length_eq_one_iff.1 h2
   simp only[fits,gA]at ha hb
   have hx:=sa 0 x rfl;have hy:=sb 0 y rfl
   cases x<;>simp[D.isStr]at ha
   cases y<;>simp[D.isStr]at hb
   rename_i s u
   simp only[sv,aB]at hx hy
   simp only[oD,Sem.run_bind,Q7 hd rfl hx,Q7 hd rfl hy,Result.andThen_ok,run_equalIn_string w m t _ _ hd,eqs,PD,gA,ByteArray.toList_mk]
   congr 1
   rw[eB];simp
  ·rename_i fs hd
   simp only[aE,Bool.not_eq_true']at h
   have hf:P.fieldsOf t=fs:=by simp[Program.fieldsOf,hd]
   have hl:=sS ha
   have pF:=sS hb
   simp only[mh,hd]at ha hb
   simp only[oD,Sem.run_bind,UT hd rfl h0,Result.andThen_ok]
   rw[run_equalIn_struct w m t _ _ (by rw[hf];exact hd) h.1,hf]
   refine Zc3 (n:=n) (λu hu hcu h0u xs ys o az bs w=>Y8 n u m (by omega) hu hcu h0u xs ys o az bs w) fs.toList 0 az bs _ _ w h.2 ha hb (sa.extract (by omega)) (sb.extract (by omega))
  ·rename_i len e hd
   simp only[aE]at h
   obtain⟨⟨h1,h2⟩,h3⟩:=h
   have h1:=bE h1
   have h2:0<P.cellsOf e:=lE h2
   have hl:=sS ha
   have pF:=sS hb
   simp only[mh,hd]at ha hb
   simp only[oD,Sem.run_bind,UT hd rfl h0,Result.andThen_ok]
   have:=Zgx (P:=P) (n:=n) (m:=m) (e:=e) rfl h1.symm (λxs ys o az bs w=>Y8 n e m (by omega) h3 h1 h2 xs ys o az bs w) len 0 az bs (xs.extract o (o+P.cellsOf t)) (ys.extract o (o+P.cellsOf t)) w ha hb
    (by rw[fZ];exact sa.extract (by omega)) (by rw[fZ];exact sb.extract (by omega))
   rw[<-this]
   simp only[Op.equalIn,Sem.run_bind,run_underlying hd,Result.andThen_ok,AF h2,Std.Legacy.Range.forIn_eq_forIn_range',Std.Legacy.Range.size,fT,Nat.add_sub_cancel,Nat.div_one]
   congr 1
   funext r w'
   obtain⟨f,u⟩:=r
   cases f<;>rfl
  ·cases h
theorem Md:∀{vs:List Value} {ds:List D},Bp vs=some ds->ds.length=vs.length
 |[],ds,h=>by simp[Bp]at h;subst h;rfl
 |v ::vs,ds,h=>by
  simp only[Bp]at h
  split at h
  ·rename_i d l h1 h2
   simp at h;subst h
   simp[Md h2]
  ·cases h
theorem ZJ{zs:Array Value}{sz n m:Nat}(hz:z.length=sz)(hs:zs.size=sz)(hr:∀j v,zs[j]?=some v->fy I w (z.getD j .dead) v)(hm:n<=m):
 ik I w (cO n z) (madeCells zs (m*sz)) 0 sz:=by
 rw[tA]
 intro i hi
 have iD:i<n:=by simpa using hi
 have he:(cO n z).getD i []=z:=by simp[aV,iD]
 rw[he]
 refine⟨hz,?_⟩
 rw[tX]
 intro j hj
 have bd:i*sz+j<m*sz:=by
  have:=bD sz (show i+1<=m by omega)
  rw[bF]at this
  omega
 have ZK:(i*sz+j)%sz=j:=by rw[Nat.add_comm,Nat.add_mul_mod_self_right,Nat.mod_eq_of_lt (by omega)]
 have LZ:j<zs.size:=by omega
 refine⟨zs[j],?_,hr j _ (Array.getElem?_eq_getElem LZ)⟩
 have hrg:(gB (m*sz))[i*sz+j]?=some (i*sz+j):=by rw[Array.getElem?_range,if_pos bd]
 simp only[madeCells,bG,Array.getElem?_map,hrg,Option.map_some,hs,ZK]
 simp[LZ]
theorem ZL{u:Value}(h:Bp u.cells.toList=some z)(hp:z.all D.plain=true)(c:Ctx)(w:World):∀j v,u.cells[j]?=some v->fy c.I w (z.getD j .dead) v:=by
 intro j v hv
 have hr:=JC h c w
 have hl:=hr.length
 have h1:u.cells.toList[j]?=some v:=by simpa using hv
 have bd:j<z.length:=by rw[hl];exact(List.getElem?_eq_some_iff.1 h1).1
 refine dc.plain ?_ ((Ei.1 hr).2 j v h1)
 have hm:z.getD j .dead∈z:=by
  simp only[aV,aI bd,aR]
  exact eT _
 exact List.all_eq_true.1 hp _ hm
theorem Uy{c:Ctx}{k:Nat}{e:TypeId}(h1:es.l.length<=cap)(h2:cap<=maxLen)(h3:cap*sz=arr.size):
 Rep (c.add k ⟨false,e,sz,es⟩ w.heap.size) (w.alloc (.cells arr e)) (.all k) (.slice (some ⟨w.heap.size,0,none⟩) es.l.length cap):=by
 refine⟨_,(Ctx.iY _ _ _ _).1,rfl,.inr ⟨by simp[Ctx.add],cap,arr,?_,h1,h2,?_,h3⟩⟩
 ·rw[(Ctx.iY _ _ _ _).2]
 ·rw[(Ctx.iY _ _ _ _).2];exact UK w _
theorem vu(hT:jg P T){kl kc:IntKind}{n m:Int}(h:uS T t n m R K):
 ∃row val,K val (R++[some row])/\∀c w,P3 P (Instr.makeSlice t (.int kl n) (.int kc m)) w c R.length row val:=by
 unfold uS at h
 split at h
 ·rename_i e _ _ _ _ _ _ ht
  have hk:=mK hT ht
  simp only at hk
  split at h
  ·rename_i kk sz lL cs z q he
   simp only[dd,aE,decide_eq_true_eq,Kx]at h
   obtain⟨⟨⟨⟨h0,hz⟩,hp⟩,g0,g1,g2,g3⟩,h⟩:=h
   have h0:0<sz:=lE h0
   have hz:=bE hz
   obtain⟨i,u,hi,hu,w9,hs,hb,hc,hzero⟩:=Hl hT he
   refine⟨_,_,h,λc w=>?_⟩
   have hr:=run_make (P:=P) w t e i u hk.1 hi hu kl kc n m g0 g1 (by rw[hb];omega) g2
   rw[hs]at hr
   have tM:u.cells.size=sz:=by have:=Md w9;simp at this;omega
   refine⟨_,_,hr,⟨h0,?_⟩,λ_ _=>?_⟩
   ·simp only[aA,if_false,ai.uT]
    exact ZJ (n:=n.toNat) (m:=m.toNat) hz tM (ZL w9 hp c w) (by omega)
   ·have:=Uy (c:=c) (w:=w) (k:=R.length) (e:=e) (sz:=sz) (cap:=m.toNat) (es:=ai.FI e n.toNat z) (arr:=madeCells u.cells (m.toNat*sz)) (by rw[ai.uT];simp;omega) (by unfold maxLen;omega) (by simp[madeCells])
    rw[ai.uT]at this
    simpa using this
  ·exact h.elim
 ·exact h.elim
theorem qv{c:Ctx}{d:D}(h:dc c w d v):dc c w d.QJ v:=by
 cases d with
 |sl sz es fr=>
  obtain⟨a,cap,hv,hc,h⟩:=h
  refine⟨a,cap,hv,hc,?_⟩
  rcases h with h|⟨b,off,arr,ty,fz,h1,h2,h3,h4⟩
  ·exact .inl h
  ·exact .inr ⟨b,off,arr,ty,fz,h1,h2,(λe=>by cases e),h4⟩
 |_=>exact h
theorem Zcq{c:Ctx}{w:World}:∀{ds:List D} {vs:List Value},jk c w ds vs->jk c w (HD ds) vs
 |[],[],_=>trivial
 |d::ds,v::vs,h=>⟨qv h.1,Zcq h.2⟩
 |[],_::_,h=>h.elim
 |_::_,[],h=>h.elim
theorem ZM{n len:Nat}(h0:0<n){ev:Operand->D}:∀{parts:List (Nat×Operand)} {es:List (List D)} {K:List (List D)->Prop},es.length=len->FJ n len ev parts es K->
 ∃ iT,K iT/\iT.length=len/\∀c w (ρ:Operand->Value) (cells:Array Value),cells.size=len*n->ik c.I w es cells 0 n->(∀p∈parts,Rep c w (ev p.2) (ρ p.2))->
  ∃dq,Instr.fill (λi=>some (i*n,n)) cells (parts.map λp=>(p.1,ρ p.2))=some dq/\dq.size=len*n/\ik c.I w iT dq 0 n
 |[],es,K,hl,h=>⟨es,h,hl,λc w ρ cells hs he _=>⟨cells,rfl,hs,he⟩⟩
 |(i,x)::ps,es,K,hl,h=>by
  unfold FJ at h
  simp only[dd,aE]at h
  obtain⟨⟨⟨⟨hv,hp⟩,hn⟩,hi⟩,h⟩:=h
  have hn:=bE hn
  have hi:i<len:=lE hi
  obtain⟨iT,hK,pF,hr⟩:=ZM h0 (by simpa using hl) h
  refine⟨iT,hK,pF,λc w ρ cells hs he kY=>?_⟩
  have hx:=Zcq (Rep.cells hv (kY (i,x) (by simp)))
  have hlen:(ρ x).cells.size=n:=by rw[<-hn,hx.length];simp
  have kO:i*n+n<=cells.size:=by
   have:=bD n (show i+1<=len by omega)
   rw[bF]at this
   omega
  have hw:=Z1a (c:=c) (w:=w) (es:=es) (arr:=cells.toList) (off:=0) (i:=i) (by simpa using he) (by omega) (by omega) hx hp (by simpa using kO)
  have QK:kX (es.getD i []) 0 (HD (ev x).cells)=HD (ev x).cells:=by
   have Gt:=(tA.1 he i (by omega)).1
   apply fY
   intro k
   rw[Hz (by omega)]
   by_cases hk:k<(HD (ev x).cells).length
   ·rw[if_pos (by omega)];simp
   ·rw[if_neg (by omega),aJ (by omega),aJ (by omega)]
  rw[QK]at hw
  have ko:(pB cells.toList (i*n+0) (ρ x).cells.toList).toArray=(ρ x).cells.zipIdx.foldl (λcs (x:Value×Nat)=>cs.setIfInBounds (i*n+x.2) x.1) cells:=by
   rw[aB,<-Zl2 (ρ x) (i*n) cells]
  rw[ko]at hw
  obtain⟨dq,k1,k2,k3⟩:=hr c w ρ _ (by rw[<-ko];simp[U5,hs]) hw (λp hp=>kY p (by simp[hp]))
  refine⟨dq,?_,k2,k3⟩
  simp only[fG,Instr.fill]
  rw[if_neg (by simp;omega)]
  exact k1
theorem Zbw{n len:Nat}{ev:Operand->D}:∀{parts:List (Nat×Operand)} {es:List (List D)} {K:List (List D)->Prop},FJ n len ev parts es K->
 ∃iT,K iT/\∀(gu:Operand->D) (K2:List (List D)->Prop),(∀p∈parts,gu p.2=ev p.2)->K2 iT->FJ n len gu parts es K2
 |[],es,K,h=>⟨es,h,λgu K2 _ h2=>h2⟩
 |(i,x)::ps,es,K,h=>by
  unfold FJ at h
  simp only[dd]at h
  obtain⟨iT,h1,h2⟩:=Zbw h.2
  refine⟨iT,h1,λgu K2 he hk=>?_⟩
  unfold FJ
  rw[he (i,x) (by simp)]
  simp only[dd]
  exact⟨h.1,h2 gu K2 (λp hp=>he p (by simp[hp])) hk⟩
theorem Znj{parts:List (Nat×Operand)}(h:Mt T t len parts ev R K):
 ∃val,K val R/\∀(gu:Operand->D) (R2:Rows),(∀p∈parts,gu p.2=ev p.2)->Mt T t len parts gu R2 λd R'=>d=val/\R'=R2:=by
 unfold Mt at h⊢
 split at h
 ·split at h
  ·simp only[dd]at h⊢
   obtain⟨h0,h⟩:=h
   obtain⟨iT,hK,hd⟩:=Zbw h
   cases len with
   |zero=>exact⟨_,hK,λgu R2 eh=>⟨h0,hd gu _ eh (by simp)⟩⟩
   |succ m=>exact⟨_,hK,λgu R2 eh=>⟨h0,hd gu _ eh (by simp)⟩⟩
  ·exact h.elim
 ·exact h.elim
theorem Zry(hT:jg P T){parts:List (Nat×Operand)}(h:Mt T t len parts ev R K):
    ∃val,K val R/\ ∀c w (ρ:Operand->Value),c.base<=w.heap.size->(∀p∈parts,Rep c w (ev p.2) (ρ p.2))-> ∃u arr ty,(Instr.buildSlice t len (parts.map λp=>(p.1,ρ p.2)).toArray).run P w= .ok u (w.alloc (.cells arr ty))/\(Mem c w->Rep (c.fe w.heap.size) (w.alloc (.cells arr ty)) val u):=by
  unfold Mt at h
  split at h
  . rename_i e _ _ _ _ _ _ ht
    have hk:=mK hT ht
    simp only at hk
    split at h
    . rename_i kk sz lL cs z q he
      simp only[dd,aE]at h
      obtain⟨⟨⟨⟨h0,hz⟩,hle⟩,hp⟩,h⟩:=h
      have h0:0<sz:=lE h0
      have hz:=bE hz
      have hle:=lE hle
      obtain⟨i,u,hi,hu,w9,hs,hb,hc,hzero⟩:=Hl hT he
      obtain⟨iT,hK,pF,hr⟩:=ZM h0 (by simp) h
      have tM:u.cells.size=sz:=by have:=Md w9;simp at this;omega
      have main: ∀c w (ρ:Operand->Value),(∀p∈parts,Rep c w (ev p.2) (ρ p.2))-> ∃dq,(Instr.buildSlice t len (parts.map λp=>(p.1,ρ p.2)).toArray).run P w= .ok (.slice (some ⟨w.heap.size,0,none⟩) len len) (w.alloc (.cells dq e))/\ik c.I w iT dq 0 sz:=by
        intro c w ρ kY
        have Gt:=ZJ (I:=c.I) (w:=w) hz tM (ZL w9 hp c w) (aX len)
        obtain⟨dq,k1,k2,k3⟩:=hr c w ρ (madeCells u.cells (len*sz)) (by simp [madeCells]) Gt kY
        refine⟨dq,?_,k3⟩
        have JD: ¬len*sz>2^24:=by omega
        have BV:0<P.cellsOf e:=by omega
        unfold Instr.buildSlice
        simp only[Sem.run_bind,run_underlying hk.1,Result.andThen_ok,AF BV,hc,Sem.run_ite,JD,if_false,Sem.run_pure]
        by_cases Eg:len*sz=0
        . have kE:Instr.fill (λi=>some (i*sz,sz)) ((gB (len*sz)).map λx=>(#[]:Array Value)[x%(#[]:Array Value).size]!) (parts.map λp=>(p.1,ρ p.2))=some dq:=by
            rw[<-k1];congr 1
            rw[Eg];simp [madeCells]
          simp only[Eg,if_true]at kE⊢
          rw[kE]
          simp only[newRow,Sem.run_bind,run_newObj,Result.andThen_ok,Sem.run_pure]
          rfl
        . simp only[Eg,if_false,hzero,Result.andThen_ok]
          rw[show Instr.fill (λi=>some (i*sz,sz)) ((gB (len*sz)).map λx=>u.cells[x%u.cells.size]!) (parts.map λp=>(p.1,ρ p.2))=some dq from k1]
          simp only[newRow,Sem.run_bind,run_newObj,Result.andThen_ok,Sem.run_pure]
          rfl
      cases len with
      | zero=>
        refine⟨_,hK,λc w ρ _ kY=> ?_⟩
        obtain⟨dq,h1,_⟩:=main c w ρ kY
        exact⟨_,dq,e,h1,λ_=>⟨_,rfl,λx hx=>by cases hx;exact Nat.lt_of_lt_of_le (Nat.lt_succ_self _) (Nat.le_max_right _ _)⟩⟩
      | succ m=>
        refine⟨_,hK,λc w ρ jh kY=> ?_⟩
        obtain⟨dq,h1,h2⟩:=main c w ρ kY
        refine⟨_,dq,e,h1,λhm=> ?_⟩
        refine⟨some ⟨w.heap.size,0,none⟩,m+1,by rw[ai.pV,pF],by rw[ai.pV,pF];exact aX _, .inr ⟨w.heap.size,0,dq,e,(0,0),rfl, .inr rfl,λ_=>jh,UK w _,?_⟩⟩
        rw[ai.pV]
        exact nC (UR hm _).I _ _ _ _ h2
    . exact h.elim
  . exact h.elim
theorem Znk(hT:jg P T){parts:List (Nat×Operand)}(h:ZN T t len parts ev R K):
    ∃row val,K val (R++[some row])/\ ∀c w (ρ:Operand->Value),(∀p∈parts,Rep c w (ev p.2) (ρ p.2))->P3 P (Instr.buildSlice t len (parts.map λp=>(p.1,ρ p.2)).toArray) w c R.length row val:=by
  unfold ZN at h
  split at h
  . rename_i e _ _ _ _ _ _ ht
    have hk:=mK hT ht
    simp only at hk
    split at h
    . rename_i kk sz lL cs z q he
      simp only[dd,aE]at h
      obtain⟨⟨⟨⟨h0,hz⟩,hle⟩,hp⟩,h⟩:=h
      have h0:0<sz:=lE h0
      have hz:=bE hz
      have hle:=lE hle
      obtain⟨i,u,hi,hu,w9,hs,hb,hc,hzero⟩:=Hl hT he
      obtain⟨iT,hK,pF,hr⟩:=ZM h0 (by simp) h
      rw[Kx]at hK
      have tM:u.cells.size=sz:=by have:=Md w9;simp at this;omega
      have main: ∀c w (ρ:Operand->Value),(∀p∈parts,Rep c w (ev p.2) (ρ p.2))-> ∃dq,(Instr.buildSlice t len (parts.map λp=>(p.1,ρ p.2)).toArray).run P w= .ok (.slice (some ⟨w.heap.size,0,none⟩) len len) (w.alloc (.cells dq e))/\ik c.I w iT dq 0 sz/\dq.size=len*sz:=by
        intro c w ρ kY
        have Gt:=ZJ (I:=c.I) (w:=w) hz tM (ZL w9 hp c w) (aX len)
        obtain⟨dq,k1,k2,k3⟩:=hr c w ρ (madeCells u.cells (len*sz)) (by simp [madeCells]) Gt kY
        refine⟨dq,?_,k3,k2⟩
        have JD: ¬len*sz>2^24:=by omega
        have BV:0<P.cellsOf e:=by omega
        unfold Instr.buildSlice
        simp only[Sem.run_bind,run_underlying hk.1,Result.andThen_ok,AF BV,hc,Sem.run_ite,JD,if_false,Sem.run_pure]
        by_cases Eg:len*sz=0
        . have kE:Instr.fill (λi=>some (i*sz,sz)) ((gB (len*sz)).map λx=>(#[]:Array Value)[x%(#[]:Array Value).size]!) (parts.map λp=>(p.1,ρ p.2))=some dq:=by
            rw[<-k1];congr 1
            rw[Eg];simp [madeCells]
          simp only[Eg,if_true]at kE⊢
          rw[kE]
          simp only[newRow,Sem.run_bind,run_newObj,Result.andThen_ok,Sem.run_pure]
          rfl
        . simp only[Eg,if_false,hzero,Result.andThen_ok]
          rw[show Instr.fill (λi=>some (i*sz,sz)) ((gB (len*sz)).map λx=>u.cells[x%u.cells.size]!) (parts.map λp=>(p.1,ρ p.2))=some dq from k1]
          simp only[newRow,Sem.run_bind,run_newObj,Result.andThen_ok,Sem.run_pure]
          rfl
      refine⟨_,_,hK,λc w ρ kY=> ?_⟩
      obtain⟨dq,h1,h2,h3⟩:=main c w ρ kY
      refine⟨_,dq,h1,⟨h0,?_⟩,λ_ _=> ?_⟩
      . simp only[aA,if_false,ai.pV];exact h2
      . have:=Uy (c:=c) (w:=w) (k:=R.length) (e:=e) (sz:=sz) (cap:=len) (es:=ai.QL e iT) (arr:=dq) (by rw[ai.pV,pF];exact aX _) (by
          have:len*1<=len*sz:=Nat.mul_le_mul_left len h0
          unfold maxLen;omega) h3.symm
        rw[ai.pV,pF]at this
        exact this
    . exact h.elim
  . exact h.elim

