import Derived.Test.YtaemmjbkndlkeaaGreatMigrateTellsFm
import Derived.Lib.Strings
open Bool renaming eq_iff_iff->eC,false_eq_true->aA,and_true->gS
open Option renaming map_eq_some_iff->fW,getD_some->aR
open Nat renaming add_assoc->gH,succ_mul->bF,le_refl->aX,sub_zero->gL,sub_self->gM,zero_add->bG,mul_le_mul_right->bD,add_zero->aB,zero_mul->gR
open List renaming length_nil->dE,map_cons->fX,length_cons->dD,getElem?_cons_zero->gN,getElem?_set_self->gO,getElem?_set_ne->gP,getD->aV,getElem?_toArray->bH,getElem?_eq_getElem->aI,getElem_mem->fG,ext_getElem?->gQ,append_assoc->aM,getElem?_append_right->bJ,getElem?_append_left->bI,getElem?_eq_none->aJ,cons_append->cH,replicate->cO
open Array renaming toArray_toList->bW,range->gT
set_option linter.all false
namespace Go.GD
open Go
variable {I:ab}{K:D->Rows->Prop}{P:Program}{R:Rows}{T:iz}{arr xs:Array Value}{b:Bool}{cap f i len n o off r sz:Nat}{cs:List rT}{d:TypeDesc}{ds e z:List D}{es:ag}{ev:Operand->D}{hi lo:Option Operand}{k k':IntKind}{op:BinOp}{row aq:Row}{s t ty:TypeId}{us:List Value}{v:Value}{w:World}{x y:Operand}{ρ:Operand->Value}
theorem Zr(a b:List UInt8):(ByteArray.mk a.toArray)++(ByteArray.mk b.toArray)=ByteArray.mk (a++b).toArray:=by
 rw[ByteArray.ext_iff]
 simp
theorem Rep.int{c:Ctx}{n:Int}:Rep c w (.int k n) v↔v=.int k n:=Iff.rfl
theorem Rep.bool{c:Ctx}:Rep c w (.bool b) v↔v=.bool b:=Iff.rfl
theorem Rep.str{c:Ctx}{s:List UInt8}:Rep c w (.str s) v↔v=.string ⟨s.toArray⟩:=Iff.rfl
theorem Qzn{a b:Int}(w:World):(eqGuard op t x y (.int k a) (.int k' b)).run P w=.ok () w:=by
 cases op<;>rfl
theorem Zsc{a b:ByteArray}(w:World):(eqGuard op t x y (.string a) (.string b)).run P w=.ok () w:=by
 cases op<;>rfl
theorem Z6b{a b:Bool}(w:World):(eqGuard op t x y (.bool a) (.bool b)).run P w=.ok () w:=by
 cases op<;>rfl
theorem zaA{a b:Int}{K:D->Prop}(sr:op≠.shl/\op≠.shr)(h:W3 op k a b K):
 ∃d,K d/\∀w,∃u,(binOp op t (.int k a) (.int k b)).run P w=.ok u w/\∀c,Rep c w d u:=by
 cases op<;>simp only[W3,de,decide_eq_true_eq]at h
 case add=>exact⟨_,h,λw=>⟨_,by simp only[binOp,ne_eq,not_true_eq_false,if_false,Op.intArith,Sem.run_pure];try rfl,λc=>rfl⟩⟩
 case sub=>exact⟨_,h,λw=>⟨_,by simp only[binOp,ne_eq,not_true_eq_false,if_false,Op.intArith,Sem.run_pure];try rfl,λc=>rfl⟩⟩
 case mul=>exact⟨_,h,λw=>⟨_,by simp only[binOp,ne_eq,not_true_eq_false,if_false,Op.intArith,Sem.run_pure];try rfl,λc=>rfl⟩⟩
 case quo=>exact⟨_,h.2,λw=>⟨_,by simp only[binOp,ne_eq,not_true_eq_false,if_false,Op.intDiv,h.1,Sem.run_pure];try rfl,λc=>rfl⟩⟩
 case rem=>exact⟨_,h.2,λw=>⟨_,by simp only[binOp,ne_eq,not_true_eq_false,if_false,Op.intDiv,h.1,Sem.run_pure];try rfl,λc=>rfl⟩⟩
 case and=>exact⟨_,h,λw=>⟨_,by simp only[binOp,ne_eq,not_true_eq_false,if_false,Op.intBits,Sem.run_pure];try rfl,λc=>rfl⟩⟩
 case or=>exact⟨_,h,λw=>⟨_,by simp only[binOp,ne_eq,not_true_eq_false,if_false,Op.intBits,Sem.run_pure];try rfl,λc=>rfl⟩⟩
 case xor=>exact⟨_,h,λw=>⟨_,by simp only[binOp,ne_eq,not_true_eq_false,if_false,Op.intBits,Sem.run_pure];try rfl,λc=>rfl⟩⟩
 case andNot=>exact⟨_,h,λw=>⟨_,by simp only[binOp,ne_eq,not_true_eq_false,if_false,Op.intBits,Sem.run_pure];try rfl,λc=>rfl⟩⟩
 case eql=>exact⟨_,h,λw=>⟨_,by simp only[binOp,ne_eq,not_true_eq_false,if_false,Op.intCmp,Sem.run_pure];try rfl,λc=>rfl⟩⟩
 case neq=>exact⟨_,h,λw=>⟨_,by simp only[binOp,ne_eq,not_true_eq_false,if_false,Op.intCmp,Sem.run_pure];try rfl,λc=>rfl⟩⟩
 case lss=>exact⟨_,h,λw=>⟨_,by simp only[binOp,ne_eq,not_true_eq_false,if_false,Op.intCmp,Sem.run_pure];try rfl,λc=>rfl⟩⟩
 case leq=>exact⟨_,h,λw=>⟨_,by simp only[binOp,ne_eq,not_true_eq_false,if_false,Op.intCmp,Sem.run_pure];try rfl,λc=>rfl⟩⟩
 case gtr=>exact⟨_,h,λw=>⟨_,by simp only[binOp,ne_eq,not_true_eq_false,if_false,Op.intCmp,Sem.run_pure];try rfl,λc=>rfl⟩⟩
 case geq=>exact⟨_,h,λw=>⟨_,by simp only[binOp,ne_eq,not_true_eq_false,if_false,Op.intCmp,Sem.run_pure];try rfl,λc=>rfl⟩⟩
theorem Zn5{a b:Int}(hb:0<=b)(w:World):
 (binOp .shl t (.int k a) (.int k' b)).run P w=.ok (.int k (ei k a b)) w/\(binOp .shr t (.int k a) (.int k' b)).run P w=.ok (.int k (bn k a b)) w:=by
 have:¬b<0:=by omega
 constructor<;>(simp only[binOp];simp[Op.shift,this,ei,bn])
theorem xaA{a b:List UInt8}{K:D->Prop}
 (h:match op with
  |.add=>cy (decide (a.length+b.length<=maxLen)) (K (.str (a++b)))
  |.eql=>K (.bool (decide (a=b)))
  |.neq=>K (.bool (!decide (a=b)))
  |_=>False):
 ∃d,K d/\∀w,∃u,(binOp op t (.string ⟨a.toArray⟩) (.string ⟨b.toArray⟩)).run P w=.ok u w/\∀c,Rep c w d u:=by
 cases op<;>simp only[de,decide_eq_true_eq]at h
 case add=>
  refine⟨_,h.2,λw=>⟨_,?_,λc=>rfl⟩⟩
  have hl:¬(((a.toArray.size+b.toArray.size:Nat):Int)>IntKind.i64.max):=by
   have:=h.1
   unfold maxLen at this
   simp only[List.size_toArray,IntKind.max,IntKind.signed,IntKind.bits,if_true]
   omega
  simp only[binOp]
  simp only[Op.stringOp,ByteArray.size,hl,if_false,Sem.run_pure,Zr]
 case eql=>
  refine⟨_,h,λw=>⟨_,?_,λc=>rfl⟩⟩
  simp only[binOp]
  simp only[Op.stringOp,Sem.run_pure,ByteArray.toList_mk,show(a==b)=decide (a=b) from by rw[eC];simp]
  try rfl
 case neq=>
  refine⟨_,h,λw=>⟨_,?_,λc=>rfl⟩⟩
  simp only[binOp]
  simp only[Op.stringOp,Sem.run_pure,ByteArray.toList_mk,show(a==b)=decide (a=b) from by rw[eC];simp]
  try rfl
def Hb(P:Program)(x:Sem Value)(w:World)(c:Ctx)(d:D):Prop:=∃u,x.run P w=.ok u w/\Rep c w d u
theorem nj(hT:jC P T){k:TK}{a b:Nat}{z:Option (List D)}{e:Bool}(h:T.get t=some ⟨k,a,b,cs,z,e⟩):
 match k with
 |.int j=>P.underlying t=some (.int j)
 |.bool=>P.underlying t=some .bool
 |.string=>P.underlying t=some .string
 |.slice u n=>P.underlying t=some (.slice u)/\P.cellsOf u=n
 |.struct fs=>∃gs,P.underlying t=some (.struct gs)/\fs=gs.toList.map λf=>(f.offset,f.type,P.cellsOf f.type)
 |.array m u n=>P.underlying t=some (.array m u)/\P.cellsOf u=n
 |.other=>True:=by
 obtain⟨i,hi,hs,hb,hl,hk,_⟩:=Ez (hT.get h)
 simp only at hk
 unfold Io at hk
 split at hk<;>(subst hk;simp_all)
theorem qaB(hT:jC P T){s d:TypeId}{x:D}{K:D->Prop}(h:Zj T s d x K):
 ∃val,K val/\∀c w v,Rep c w x v->Hb P (convert s d v) w c val:=by
 unfold Zj at h
 split at h
 ·rename_i k1 _ _ _ _ _ k2 _ _ _ _ _ hs hd
  have h1:=nj hT hs
  have h2:=nj hT hd
  simp only at h1 h2
  cases x<;>simp only at h
  exact⟨_,h,λc w v hv=>⟨_,by rw[Rep.int.1 hv];simp only[convert,Sem.run_bind,run_underlying h1,run_underlying h2,Result.andThen_ok,Conv.intToInt,Sem.run_pure],rfl⟩⟩
 ·rename_i hs hd
  have h1:=nj hT hs
  have h2:=nj hT hd
  simp only at h1 h2
  cases x<;>simp only at h
  exact⟨_,h,λc w v hv=>⟨_,by rw[Rep.str.1 hv];simp only[convert,Sem.run_bind,run_underlying h1,run_underlying h2,Result.andThen_ok,Sem.run_pure],rfl⟩⟩
 ·exact h.elim
theorem Z6t(hT:jC P T){q:TypeId×Nat}(h:SF T s f=some (o,q)):
 ∃fs fd,P.underlying s=some (.struct fs)/\fs[f]?=some fd/\fd.offset=o/\fd.type=q.1/\P.cellsOf fd.type=q.2:=by
 unfold SF at h
 split at h
 ·rename_i fs _ _ _ _ _ ht
  obtain⟨i,hi,hs,hb,hl,hk,_⟩:=Ez (hT.get ht)
  simp only at hk
  unfold Io at hk
  split at hk<;>try(cases hk;done)
  rename_i gs hd
  simp only[TK.struct.injEq]at hk
  subst hk
  simp only[List.getElem?_map,fW,Prod.mk.injEq,Array.getElem?_toList]at h
  obtain⟨fd,h1,h2,h3⟩:=h
  exact⟨gs,fd,hd,h1,h2,by rw[<-h3],by rw[<-h3]⟩
 ·cases h
theorem Zlz(h:0<P.cellsOf t):∃i,P.info? t=some i:=by
 unfold Program.cellsOf at h
 cases hi:P.info? t with
 |none=>simp[hi]at h
 |some i=>exact⟨i,rfl⟩
theorem Bs(h:0<P.cellsOf t)(w:World):(sizeOf t).run P w=.ok (P.cellsOf t) w:=by
 obtain⟨i,hi⟩:=Zlz h
 exact run_sizeOf w hi
theorem Z9l{fs:Array Field}{fd:Field}(hs:P.underlying s=some (.struct fs))(hf:fs[f]?=some fd)(h0:0<P.cellsOf fd.type)(b o:Nat)(w:World):
 (Instr.fieldAt s (.pointer (some ⟨b,o,none⟩)) f).run P w=.ok (.pointer (some ⟨b,o+fd.offset,none⟩)) w:=by
 have h1:¬P.cellsOf fd.type=0:=by omega
 simp only[Instr.fieldAt,Sem.run_bind,run_underlying hs,Result.andThen_ok,hf,Instr.sureAddr,Sem.run_pure,fieldPlace,Bs h0,Sem.run_ite,h1,if_false,Gm]
theorem Zxz(hT:jC P T){x:D}{W4:Bool}{n:Int}(h:W5 T t x W4 n R K):
 ∃val,K val R/\∀c w v,Mem c w->mN c R->Rep c w x v->Hb P (Instr.indexAt t v (.int k n)) w c val:=by
 unfold W5 at h
 split at h
 ·rename_i e iW _ _ _ _ _ ht
  have hk:=nj hT ht
  simp only at hk
  obtain⟨hu,ga⟩:=hk
  have slc:∀(b o len cap:Nat) (w:World),0<iW->0<=n->n<len->(Instr.indexAt t (.slice (some ⟨b,o,none⟩) len cap) (.int k n)).run P w=.ok (.pointer (some ⟨b,o+n.toNat*iW,none⟩)) w:=by
   intro b o len cap w h0 h1 h2
   simp only[Instr.indexAt,asIntOf,Sem.run_bind,Sem.run_pure,Result.andThen_ok,run_underlying hu,Sem.run_ite,h1,h2,and_self,if_true,Bs (ga▸h0),ga,Gm]
  cases x<;>simp only[de,aE,decide_eq_true_eq,<-ag.iw]at h
  case sl sz es fr=>
   obtain⟨⟨⟨h1,h0⟩,h2,h3⟩,h⟩:=h
   have h1:=bE h1
   have h0:0<iW:=lE h0
   subst h1
   refine⟨_,h,λc w v hm hA hv=>?_⟩
   obtain⟨a,cap,hv,hc,gz⟩:=hv
   rcases gz with gz|⟨b,off,arr,ty,fz,ha,hI,hf,hh,hE⟩
   ·rw[gz]at h3;simp at h3;omega
   ·subst ha;subst hv
    refine⟨_,slc b off _ _ w h0 h2 h3,b,off,arr,ty,fz,by simp,hI,by omega,hh,hE⟩
  case all r=>
   split at h
   ·rename_i box ty sz es hR
    obtain⟨⟨⟨h1,h0⟩,h2,h3⟩,h⟩:=h
    have h1:=bE h1
    have h0:0<iW:=lE h0
    subst h1
    refine⟨_,h,λc w v hm hA hv=>?_⟩
    obtain⟨row,g1,g2,hv⟩:=hv
    have:=hA r row _ g1 hR
    subst this
    rcases hv with⟨hV,a,hv,_⟩|⟨hV,cap,arr,hv,g3,g4,g5,g6⟩
    ·have:=(hm.nZ g1 hV).2.1
     simp only at this
     rw[this]at h3
     simp at h3;omega
    ·subst hv
     exact⟨_,slc _ 0 _ _ w h0 h2 h3,_,g1,hV,by simp only;omega,by simp⟩
   ·exact h.elim
  case own r o m=>
   split at h
   ·rename_i box ty sz es hR
    obtain⟨⟨⟨h1,h0⟩,h2,h3⟩,h⟩:=h
    have h1:=bE h1
    have h0:0<iW:=lE h0
    subst h1
    refine⟨_,h,λc w v hm hA hv=>?_⟩
    obtain⟨row,g1,g2,g5,hv⟩:=hv
    have:=hA r row _ g1 hR
    subst this
    simp only at*
    rcases hv with⟨g7,_⟩|⟨hV,cap,arr,g3,g4,g6,hv,g7⟩
    ·omega
    ·subst hv
     exact⟨_,slc _ _ _ _ w h0 h2 h3,_,g1,hV,by simp only;omega,by simp[Nat.add_mul]⟩
   ·exact h.elim
 ·rename_i len e iW _ _ _ _ _ ht
  have hk:=nj hT ht
  simp only at hk
  obtain⟨hu,ga⟩:=hk
  simp only[de,aE,decide_eq_true_eq]at h
  obtain⟨⟨h0,h2,h3⟩,h⟩:=h
  have h0:0<iW:=lE h0
  have DS:∀(b o:Nat) (w:World),(Instr.indexAt t (.pointer (some ⟨b,o,none⟩)) (.int k n)).run P w=.ok (.pointer (some ⟨b,o+n.toNat*iW,none⟩)) w:=by
   intro b o w
   simp only[Instr.indexAt,asIntOf,Sem.run_bind,Sem.run_pure,Result.andThen_ok,run_underlying hu,Instr.sureAddr,Sem.run_ite,h2,h3,and_self,if_true,Bs (ga▸h0),ga,Gm]
  cases x<;>simp only at h
  case ptr r i off=>
   have Ay:K (.ptr r i (off+n.toNat*iW)) R->∃val,K val R/\∀c w v,Mem c w->mN c R->Rep c w (.ptr r i off) v->Hb P (Instr.indexAt t v (.int k n)) w c val:=λh=>
    ⟨_,h,λc w v hm hA hv=>by
     obtain⟨row,g1,gV,g2,hv⟩:=hv
     subst hv
     exact⟨_,DS _ _ w,row,g1,gV,g2,by simp[gH]⟩⟩
   have oa:∀kk,Nat.beq iW 1=true->K (.pa r i off len kk n.toNat) R->∃val,K val R/\∀c w v,Mem c w->mN c R->Rep c w (.ptr r i off) v->Hb P (Instr.indexAt t v (.int k n)) w c val:=λkk h1 h=>
    ⟨_,h,λc w v hm hA hv=>by
     obtain⟨row,g1,gV,g2,hv⟩:=hv
     have h1:=bE h1
     subst hv
     exact⟨_,DS _ _ w,by omega,row,g1,gV,g2,by simp[gH,h1]⟩⟩
   cases W4 with
   |true=>exact Ay h
   |false=>
    simp only at h
    split at h
    ·exact oa _ h.1 h.2
    ·exact oa _ h.1 h.2
    ·exact Ay h
  case iu sz es i off=>
   refine⟨_,h,λc w v hm hA hv=>?_⟩
   obtain⟨b,o,arr,ty,fz,hv,hI,hi,hh,hE⟩:=hv
   subst hv
   exact⟨_,DS _ _ w,b,o,arr,ty,fz,by simp[gH],hI,hi,hh,hE⟩
 ·exact h.elim
theorem zae{x:Option Operand}{n l:Int}{c:Ctx}(h:sE x ev n=some l)(hr:∀y,x=some y->Rep c w (ev y) (ρ y)):
 (x=none/\l=n)\/∃y k,x=some y/\ρ y=.int k l:=by
 cases x with
 |none=>simp[sE]at h;exact .inl ⟨rfl,h.symm⟩
 |some y=>
  simp only[sE]at h
  cases hd:ev y<;>simp only[hd]at h<;>try(cases h;done)
  have:=hr y rfl
  rw[hd]at this
  simp only[Option.some.injEq]at h
  subst h
  exact .inr ⟨y,_,rfl,Rep.int.1 this⟩
theorem Zhw{l h:Int}{c:Ctx}
 (hl:sE lo ev 0=some l) (hh:sE hi ev len=some h) (sc:∀y,lo=some y->Rep c w (ev y) (ρ y)) (Bu:∀y,hi=some y->Rep c w (ev y) (ρ y))
 (h0:0<=l) (h1:l<=h) (h2:h<=cap):(Instr.sliceBounds b len cap (lo.map ρ) (hi.map ρ) none).run P w=.ok (l.toNat,h.toNat,cap) w:=by
 have bound:∀(k:IntKind) (i:Int) (y:Nat) (code:BoundsCode),0<=i->i<=y->(Instr.sliceBound (.int k i) y code).run P w=.ok i.toNat w:=by
  intro k i y code a1 a2
  simp[Instr.sliceBound,asIntOf,a1,a2]
 rcases zae hh Bu with⟨rfl,rfl⟩|⟨y,k,rfl,hy⟩<;>rcases zae hl sc with⟨rfl,rfl⟩|⟨z,k',rfl,hz⟩
 ·simp[Instr.sliceBounds]
 ·simp[Instr.sliceBounds,hz,bound k' l len _ h0 h1]
 ·simp[Instr.sliceBounds,hy,bound k h cap _ (by omega) h2]
 ·simp[Instr.sliceBounds,hy,hz,bound k h cap _ (by omega) h2,bound k' l h.toNat _ h0 (by omega)]
theorem Lw{I:ab}{w:World}:∀{es:List (List D)} {arr:Array Value} {off sz l:Nat},im I w es arr off sz->im I w (es.drop l) arr (off+l*sz) sz
 |es,arr,off,sz,0,h=>by simpa using h
 |[],arr,off,sz,l+1,h=>by simp[rV,rF]
 |e::es,arr,off,sz,l+1,h=>by
  simp only[rV,rF]at h
  have:=Lw (l:=l) h.2.2
  rw[show off+(l+1)*sz=off+sz+l*sz by rw[bF];omega]
  simpa using this
theorem Nw{I:ab}{w:World}:∀{es:List (List D)} {arr:Array Value} {off sz n:Nat},im I w es arr off sz->im I w (es.take n) arr off sz
 |es,arr,off,sz,0,h=>by simp[rV,rF]
 |[],arr,off,sz,n+1,h=>by simp[rV,rF]
 |e::es,arr,off,sz,n+1,h=>by
  simp only[rV,rF]at h
  simp only[List.take_succ_cons,rV,rF]
  exact⟨h.1,h.2.1,Nw h.2.2⟩
theorem Zl6(s:List UInt8)(l h:Nat):(ByteArray.mk s.toArray).extract l h=⟨((s.drop l).take (h-l)).toArray⟩:=by
 rw[Lib.extract_eq]
theorem Zp:∀{e:List D} {off n:Nat},(ints e off n).length=n
 |_,_,0=>rfl
 |e,off,n+1=>by simp[ints,Zp]
theorem Zgv{I:ab}{w:World}{k:IntKind}{e:List D}{arr:Array Value}{o:Nat}(h:py I w e arr o):∀{n off:Nat},off+n<=e.length->DK k e off n=true->im I w (ag.ints k (ints e off n)).l arr (o+off) 1
 |0,_,_,_=>rV.2 trivial
 |n+1,off,hl,ha=>by
  simp only[DK,aE]at ha
  obtain⟨v,hv,hp⟩:=WI h (j:=off) (by omega)
  rw[D.kH ha.1]at hp
  have r:=Zgv h (n:=n) (off:=off+1) (by omega) ha.2
  rw[show o+(off+1)=o+off+1 by omega]at r
  exact rF.2 ⟨rfl,EB.2 ⟨⟨v,hv,hp⟩,EA.2 trivial⟩,r⟩
theorem vW(hT:jC P T){x:D}(h:NL T t x lo hi ev R K):
 ∃ val,K val R/\∀c w v (ρ:Operand->Value),Mem c w->mN c R->Rep c w x v->(∀y,lo=some y->Rep c w (ev y) (ρ y))->(∀y,hi=some y->Rep c w (ev y) (ρ y))->
  Hb P (Instr.sliceAt t v (lo.map ρ) (hi.map ρ) none) w c val:=by
 unfold NL at h
 split at h
 ·rename_i ht
  have hu:=nj hT ht
  simp only at hu
  cases x<;>simp only at h
  case str s=>
   split at h
   ·rename_i l u hl hh
    try rw[<-ag.iw]at hh
    simp only[de,decide_eq_true_eq]at h
    obtain⟨⟨h0,h1,h2⟩,h⟩:=h
    refine⟨_,h,λc w v ρ hm hA hv sc Bu=>?_⟩
    rw[Rep.str.1 hv]
    refine⟨_,?_,rfl⟩
    have hb:=Zhw (P:=P) (b:=false) (len:=s.length) (cap:=s.length) hl hh sc Bu h0 h1 h2
    have ga:(ByteArray.mk s.toArray).size=s.length:=by simp[ByteArray.size]
    simp only[Instr.sliceAt,Sem.run_bind,run_underlying hu,Result.andThen_ok,Instr.slice,Option.isSome_none,aA,if_false,ga,hb,Sem.run_pure,Zl6]
   ·exact h.elim
 ·rename_i e iW _ _ _ _ _ ht
  have hk:=nj hT ht
  simp only at hk
  obtain⟨hu,ga⟩:=hk
  have sl:∀(a:Option Addr) (len cap:Nat) (l u:Int) (c:Ctx) (w:World) (ρ:Operand->Value),0<iW->sE lo ev 0=some l->sE hi ev len=some u->(∀y,lo=some y->Rep c w (ev y) (ρ y))->(∀y,hi=some y->Rep c w (ev y) (ρ y))->
   0<=l->l<=u->u<=cap->(Instr.sliceAt t (.slice a len cap) (lo.map ρ) (hi.map ρ) none).run P w=.ok (.slice (if cap=l.toNat then a else a.map (·.add (l.toNat*iW))) (u.toNat-l.toNat) (cap-l.toNat)) w:=by
   intro a len cap l u c w ρ h0 hl hh sc Bu g0 g1 g2
   have hb:=Zhw (P:=P) (b:=true) (len:=len) (cap:=cap) hl hh sc Bu g0 g1 g2
   simp only[Instr.sliceAt,Sem.run_bind,run_underlying hu,Result.andThen_ok,Instr.slice,hb,Bs (ga▸h0),ga,Sem.run_pure]
  cases x<;>simp only at h
  case sl sz es fr=>
   split at h
   ·rename_i l u hl hh
    try rw[<-ag.iw]at hh
    simp only[de,aE,decide_eq_true_eq,<-ag.iw]at h
    obtain⟨⟨⟨h1,h0⟩,g0,g1,g2⟩,h⟩:=h
    have h1:=bE h1
    have h0:0<iW:=lE h0
    subst h1
    refine⟨_,h,λc w v ρ hm hA hv sc Bu=>?_⟩
    obtain⟨a,cap,hv,hc,gz⟩:=hv
    subst hv
    refine⟨_,sl a _ cap l u c w ρ h0 hl hh sc Bu g0 g1 (by omega),?_⟩
    have hlen:((es.drop l.toNat).take (u.toNat-l.toNat)).l.length=u.toNat-l.toNat:=by rw[ag.jo,ag.kL];simp only[List.length_take,List.length_drop];omega
    refine⟨_,cap-l.toNat,by rw[hlen],by omega,?_⟩
    rw[ag.jo,ag.kL]
    by_cases hlu:l=u
    ·left
     subst hlu
     simp
    ·rcases gz with gz|⟨b,off,arr,ty,fz,ha,hI,hf,hh,hE⟩
     ·rw[gz]at g2;simp at g2;omega
     ·right
      subst ha
      refine⟨b,off+l.toNat*sz,arr,ty,fz,?_,hI,hf,hh,Nw (Lw hE)⟩
      rw[if_neg (by omega)]
      simp[Gm]
   ·exact h.elim
  case all r=>
   split at h
   ·rename_i box ty sz es hR
    split at h
    ·rename_i l u hl hh
     try rw[<-ag.iw]at hh
     simp only[de,aE,decide_eq_true_eq,<-ag.iw]at h
     obtain⟨⟨⟨h1,h0⟩,g0,g1,g2⟩,h⟩:=h
     have h1:=bE h1
     have h0:0<iW:=lE h0
     subst h1
     refine⟨_,h,λc w v ρ hm hA hv sc Bu=>?_⟩
     obtain⟨row,k1,k2,hv⟩:=hv
     have:=hA r row _ k1 hR
     subst this
     rcases hv with⟨hV,a,hv,Dz⟩|⟨hV,cap,arr,hv,k3,k4,k5,k6⟩
     ·have he:=(hm.nZ k1 hV).2.1
      simp only at he
      rw[he]at g2 hh
      simp at g2
      subst hv
      refine⟨_,sl a 0 0 l u c w ρ h0 hl hh sc Bu g0 g1 (by omega),_,k1,k2,by simp only[he,dE];omega,.inl ⟨by omega,a,?_,.inl Dz⟩⟩
      rw[if_pos (by omega)]
      simp;omega
     subst hv
     simp only at*
     refine⟨_,sl _ _ cap l u c w ρ h0 hl hh sc Bu g0 g1 (by omega),_,k1,k2,by simp only;omega,?_⟩
     by_cases jH:cap=l.toNat
     ·left
      exact⟨by omega,some ⟨c.ρ r,0,none⟩,by rw[if_pos jH,show u.toNat-l.toNat=0 by omega,show cap-l.toNat=0 by omega],.inr ⟨hV,λx hx=>by cases hx;rfl⟩⟩
     ·right
      refine⟨hV,cap-l.toNat,arr,by omega,by omega,k5,by rw[if_neg jH];simp[Gm],?_⟩
      rw[<-k6];congr 1;omega
    ·exact h.elim
   ·exact h.elim
  case own r o m=>
   split at h
   ·rename_i box ty sz es hR
    split at h
    ·rename_i l u hl hh
     try rw[<-ag.iw]at hh
     simp only[de,aE,decide_eq_true_eq,<-ag.iw]at h
     obtain⟨⟨⟨h1,h0⟩,g0,g1,g2⟩,h⟩:=h
     have h1:=bE h1
     have h0:0<iW:=lE h0
     subst h1
     refine⟨_,h,λc w v ρ hm hA hv sc Bu=>?_⟩
     obtain⟨row,k1,k2,k5,hv⟩:=hv
     have:=hA r row _ k1 hR
     subst this
     simp only at*
     rcases hv with⟨k7,a,hv,Dz⟩|⟨hV,cap,arr,k3,k4,k6,hv,k7⟩
     ·subst hv
      subst k7
      refine⟨_,sl a 0 0 l u c w ρ h0 hl hh sc Bu g0 g1 (by omega),_,k1,k2,by simp only;omega,.inl ⟨by omega,a,?_,Dz⟩⟩
      rw[if_pos (by omega)]
      simp;omega
     ·subst hv
      refine⟨_,sl _ _ cap l u c w ρ h0 hl hh sc Bu g0 g1 (by omega),_,k1,k2,by simp only;omega,?_⟩
      by_cases jH:cap=l.toNat
      ·left
       exact⟨by omega,some ⟨c.ρ r,o*sz,none⟩,by rw[if_pos jH,show u.toNat-l.toNat=0 by omega,show cap-l.toNat=0 by omega],.inr ⟨hV,λx hx=>by cases hx;rfl⟩⟩
      ·right
       refine⟨hV,cap-l.toNat,arr,by omega,by omega,k6,by rw[if_neg jH];simp[Gm,Nat.add_mul],?_⟩
       simp only
       rw[<-k7];congr 1;omega
    ·exact h.elim
   ·exact h.elim
 ·rename_i len e iW _ _ _ _ _ ht
  have hk:=nj hT ht
  simp only at hk
  obtain⟨hu,ga⟩:=hk
  cases x
  case iu sz es i off=>
   split at h
   ·rename_i heq
    cases heq
    split at h
    ·rename_i k _ _ _ _ _ he
     simp only[de,aE]at h
     obtain⟨⟨h1,h2,h3⟩,h⟩:=h
     have h1:=bE h1
     have h2:=lE h2
     subst h1
     refine⟨_,h,λc w v ρ hm hA hv _ _=>?_⟩
     obtain⟨b,o,arr,ty,fz,hv,hI,hi,hh,hE⟩:=hv
     subst hv
     obtain⟨q1,q2⟩:=WJ hE hi
     rw[ag.nQ es (by rw[<-ag.iw];exact hi)]at q1 q2
     have hlen:(ag.ints k (ints (es.get i) off len)).l.length=len:=by simp[ag.l,Zp]
     refine⟨.slice (some (if len=0 then⟨b,o+i*sz+off,none⟩else Addr.add ⟨b,o+i*sz+off,none⟩ (0*1))) len len,?_,⟨_,len,by rw[hlen],by rw[hlen];exact aX _,.inr ⟨b,o+i*sz+off,arr,ty,fz,?_,hI,(λhf=>by cases hf),hh,Zgv q2 (by omega) h3⟩⟩⟩
     ·simp only[Instr.sliceAt,Instr.sureAddr,Instr.sliceBounds,Sem.run_bind,run_underlying hu,Result.andThen_ok,Sem.run_pure,Bs (ga▸Nat.zero_lt_one),ga,Option.map_none,gL]
     ·congr 1
      split
      ·rfl
      ·simp[Gm]
    ·exact h.elim
   ·exact h.elim
  all_goals exact h.elim
 ·exact h.elim
theorem zaR(hT:jC P T){t t':TypeId}{x:D}(h:tN T t x R K):
 ∃val,K val R/\∀c w v,Mem c w->mN c R->Rep c w x v->Hb P (Builtin.len_ #[t] t' #[v]) w c val:=by
 unfold tN at h
 split at h
 ·rename_i ht
  have hu:=nj hT ht
  simp only at hu
  cases x<;>simp only at h
  rename_i s
  refine⟨_,h,λc w v hm hA hv=>⟨_,?_,rfl⟩⟩
  rw[Rep.str.1 hv]
  have ga:(ByteArray.mk s.toArray).size=s.length:=by simp[ByteArray.size]
  have h0:(#[t]:Array TypeId)[0]?=some t:=rfl
  have h1:(#[Value.string ⟨s.toArray⟩]:Array Value)[0]?=some (Value.string ⟨s.toArray⟩):=rfl
  unfold Builtin.len_
  simp only[h0,h1,Sem.run_bind,run_underlying hu,Result.andThen_ok,goInt,ga,Sem.run_pure]
 ·rename_i e iW _ _ _ _ _ ht
  have hk:=nj hT ht
  simp only at hk
  obtain⟨hu,ga⟩:=hk
  have ln:∀(a:Option Addr) (n cap:Nat) (w:World),(Builtin.len_ #[t] t' #[.slice a n cap]).run P w=.ok (.int .i64 n) w:=by
   intro a n cap w
   simp[Builtin.len_,run_underlying hu,goInt]
  cases x<;>simp only at h
  case c8=>exact⟨_,h,λc w v hm hA hv=>⟨_,by rw[show v=_ from hv];exact ln _ _ _ w,rfl⟩⟩
  case emp=>exact⟨_,h,λc w v hm hA hv=>by obtain⟨a,hv,_⟩:=hv;subst hv;exact⟨_,ln _ _ _ w,rfl⟩⟩
  case sl sz es fr=>
   refine⟨_,h,λc w v hm hA hv=>?_⟩
   obtain⟨a,cap,hv,_⟩:=hv
   subst hv
   exact⟨_,ln _ _ _ w,by rw[ag.iw];rfl⟩
  case all r=>
   split at h
   ·rename_i box ty sz es hR
    refine⟨_,h,λc w v hm hA hv=>?_⟩
    obtain⟨row,k1,k2,hv⟩:=hv
    have:=hA r row _ k1 hR
    subst this
    rcases hv with⟨hV,a,hv,_⟩|⟨hV,cap,arr,hv,k3,k4,k5,k6⟩
    ·have he:=(hm.nZ k1 hV).2.1
     simp only at he
     subst hv
     refine⟨_,ln _ _ _ w,?_⟩
     rw[<-ag.iw,he];rfl
    ·subst hv
     exact⟨_,ln _ _ _ w,by simp only[ag.iw];rfl⟩
   ·exact h.elim
  case own r o m=>
   refine⟨_,h,λc w v hm hA hv=>?_⟩
   obtain⟨row,k1,k2,k5,hv⟩:=hv
   rcases hv with⟨h0,a,hv,_⟩|⟨hV,cap,arr,k3,k4,k6,hv,k7⟩
   ·subst hv;subst h0;exact⟨_,ln _ _ _ w,rfl⟩
   ·subst hv;exact⟨_,ln _ _ _ w,rfl⟩
 ·exact h.elim
theorem jG.set{c:Ctx}{w:World}:∀{ds:List D} {vs:List Value} {d:D} {v:Value} (i:Nat),jG c w ds vs->dc c w d v->jG c w (ds.set i d) (vs.set i v)
 |[],[],_,_,_,h,_=>by simpa using h
 |[],_::_,_,_,_,h,_=>h.elim
 |_::_,[],_,_,_,h,_=>h.elim
 |a::ds,b::vs,d,v,0,h,hd=>⟨hd,h.2⟩
 |a::ds,b::vs,d,v,i+1,h,hd=>⟨h.1,jG.set i h.2 hd⟩
theorem jG.length{c:Ctx}{vs:List Value}(h:jG c w ds vs):ds.length=vs.length:=(Fa.1 h).1
theorem Rep.cells{c:Ctx}{d:D}(hd:d.isVal=true)(h:Rep c w d v):jG c w d.cells v.cells.toList:=by
 have one:∀d':D,dc c w d' v->jG c w [d'] v.cells.toList:=λd' h'=>by
  have h1:=h'.one
  have:v.cells= #[v]:=by cases v<;>first|rfl|(simp[Value.oneCell']at h1)
  rw[this]
  exact⟨h',trivial⟩
 cases d with
 |agg cs=>
  obtain⟨vs,hv,hr⟩:=h
  subst hv
  simpa[Value.cells,D.cells]using hr
 |dw ds=>simp[D.isVal]at hd
 |dead=>simp[D.isVal]at hd
 |_=>exact one _ h
theorem SG:∀{xs:List D} {ds:List D} {off:Nat},(lK ds off xs).length=ds.length
 |[],_,_=>rfl
 |x::xs,ds,off=>by unfold lK;rw[SG];simp
def Q5:List Value->Nat->List Value->List Value
 |e,_,[]=>e
 |e,off,v::vs=>Q5 (e.set off v) (off+1) vs
theorem Z5r{c:Ctx}{w:World}:∀{xs:List D} {us:List Value} {ds:List D} {vs:List Value} {off:Nat},jG c w ds vs->jG c w xs us->jG c w (lK ds off xs) (Q5 vs off us)
 |[],[],_,_,_,h,_=>h
 |[],_::_,_,_,_,_,h=>h.elim
 |_::_,[],_,_,_,_,h=>h.elim
 |x::xs,u::us,ds,vs,off,h,hx=>by unfold lK Q5;exact Z5r (h.set off hx.1) hx.2
theorem Qy7:∀(us:List Value) (k off:Nat) (cells:Array Value),
 ((us.zipIdx k).foldl (λcs (x:Value×Nat)=>cs.setIfInBounds (off+x.2) x.1) cells).toList=Q5 cells.toList (off+k) us
 |[],_,_,_=>by simp[Q5]
 |u::us,k,off,cells=>by
  simp only[List.zipIdx_cons,List.foldl_cons,Q5]
  rw[Qy7 us (k+1) off]
  simp[Array.toList_setIfInBounds,gH]
theorem Zob(v:Value)(off:Nat)(cells:Array Value):
 (v.cells.zipIdx.foldl (λcs (x:Value×Nat)=>cs.setIfInBounds (off+x.2) x.1) cells).toList=Q5 cells.toList off v.cells.toList:=by
 rw[<-Array.foldl_toList,Array.toList_zipIdx]
 exact Qy7 v.cells.toList 0 off cells
theorem Z9n{place:Nat->Option (Nat×Nat)}{ev:Operand->D}:∀{parts:List (Nat×Operand)} {ds:List D} {K:List D->Prop},Gy place ev parts ds K->
 ∃ oP,K oP/\∀c w (ρ:Operand->Value) (cells:Array Value),jG c w ds cells.toList->(∀p∈parts,Rep c w (ev p.2) (ρ p.2))->
  ∃dr,Instr.fill place cells (parts.map λp=>(p.1,ρ p.2))=some dr/\jG c w oP dr.toList
 |[],ds,K,h=>⟨ds,D.ff.1 h,λc w ρ cells hr _=>⟨cells,rfl,hr⟩⟩
 |(i,x)::ps,ds,K,h=>by
  unfold Gy at h
  split at h
  ·rename_i off n hp
   simp only[de,aE]at h
   obtain⟨⟨⟨hv,hn⟩,hle⟩,h⟩:=h
   have hn:=bE hn
   have hle:=lE hle
   obtain⟨oP,hK,hr⟩:=Z9n h
   refine⟨oP,hK,λc w ρ cells hc lL=>?_⟩
   have hx:=Rep.cells hv (lL (i,x) (by simp))
   have hlen:(ρ x).cells.size=n:=by rw[<-hn,hx.length];simp
   have ga:cells.size=ds.length:=by rw[hc.length];simp
   have fe:jG c w (lK ds off (ev x).cells) ((ρ x).cells.zipIdx.foldl (λcs (x:Value×Nat)=>cs.setIfInBounds (off+x.2) x.1) cells).toList:=by
    rw[Zob];exact Z5r hc hx
   obtain⟨dr,h1,h2⟩:=hr c w ρ _ fe (λp hp=>lL p (by simp[hp]))
   refine⟨dr,?_,h2⟩
   simp only[fX,Instr.fill,hp]
   rw[if_neg (by simp;omega)]
   exact h1
  ·exact h.elim
theorem Zi{d:D}(h:Zq v=some d)(c:Ctx)(w:World):dc c w d v:=by
 cases v<;>simp only[Zq]at h<;>first|(cases h;done)|skip
 case nilIface=>simp at h;subst h;rfl
 case nilFunc=>simp at h;subst h;rfl
 case bool b=>simp at h;subst h;rfl
 case int k n=>simp at h;subst h;rfl
 case string s=>simp at h;subst h;simp[dc]
 case pointer a=>cases a<;>simp at h;subst h;rfl
 case slice a n cp=>
  split at h
  all_goals first|(simp at h;subst h;simp_all [dc];done)|(simp_all;done)
theorem KG:∀{vs:List Value} {ds:List D},Cc vs=some ds->∀(c:Ctx) (w:World),jG c w ds vs
 |[],ds,h,c,w=>by simp[Cc]at h;subst h;trivial
 |v ::vs,ds,h,c,w=>by
  simp only[Cc]at h
  split at h
  ·rename_i d l h1 h2
   simp at h;subst h
   exact⟨Zi h1 c w,KG h2 c w⟩
  ·cases h
theorem Oy{d:D}(h:Zn v=some d)(c:Ctx)(w:World):Rep c w d v:=by
 have one:Zq v=some d->Rep c w d v:=λh=>by
  have:=Zi h c w
  cases d<;>first|exact this|trivial|exact this.elim
 cases v with
 |agg cs=>
  simp only[Zn,fW]at h
  obtain⟨ds,h1,h2⟩:=h
  subst h2
  exact⟨cs.toList,by simp,KG h1 c w⟩
 |_=>exact one h
theorem Ie(hT:jC P T){k:TK}{a b:Nat}{e:Bool}(h:T.get t=some ⟨k,a,b,cs,some z,e⟩):
 ∃i u,P.info? t=some i/\i.zero=some u/\Cc u.cells.toList=some z/\i.size=a/\i.bytes=b/\P.cellsOf t=a/\∀w,(zeroValue t).run P w=.ok u w:=by
 obtain⟨i,hi,hs,hb,hl,hk,hz,_⟩:=Ez (hT.get h)
 simp only at hz hs hb
 have hz:=hz.symm
 simp only[Option.bind_eq_some_iff]at hz
 obtain⟨u,hu,hz⟩:=hz
 refine⟨i,u,hi,hu,hz,hs,hb,by simp[Program.cellsOf,hi,hs],λw=>?_⟩
 simp[zeroValue,typeInfo,hi,hu]
theorem Zgs{P:Program}(w:World):∀(fs:List Field),(∀f∈fs,0<P.cellsOf f.type)->
 (fs.mapM λf=>do pure (f.offset,<-sizeOf f.type):Sem (List (Nat×Nat))).run P w=.ok (fs.map λf=>(f.offset,P.cellsOf f.type)) w
 |[],_=>rfl
 |f::fs,h=>by
  simp only[List.mapM_cons,Sem.run_bind,Bs (h f (by simp)),Result.andThen_ok,Sem.run_pure,Zgs w fs (λg hg=>h g (by simp[hg])),fX]
theorem qX(hT:jC P T){parts:List (Nat×Operand)}(h:NM T t parts ev R K):
 ∃val,K val R/\∀c w (ρ:Operand->Value),(∀p∈parts,Rep c w (ev p.2) (ρ p.2))->Hb P (Instr.build t (parts.map λp=>(p.1,ρ p.2)).toArray) w c val:=by
 unfold NM at h
 split at h
 ·rename_i fs _ _ _ ds _ ht
  obtain⟨i,u,hi,hu,hz,_,_,_,hzero⟩:=Ie hT ht
  obtain⟨gs,hd,OO⟩:=nj hT ht
  rw[de]at h
  obtain⟨wa,h⟩:=h
  have wa:∀f∈gs.toList,0<P.cellsOf f.type:=λf hf=>by
   have:=List.all_eq_true.1 wa (f.offset,f.type,P.cellsOf f.type) (by rw[OO];exact List.mem_map.2 ⟨f,hf,rfl⟩)
   exact lE this
  obtain⟨oP,hK,hr⟩:=Z9n h
  refine⟨_,hK,λc w ρ lL=>?_⟩
  obtain⟨dr,h1,h2⟩:=hr c w ρ u.cells (KG hz c w) lL
  refine⟨.agg dr,?_,dr.toList,by simp,h2⟩
  have hpl:(gs.mapM λf=>do pure (f.offset,<-sizeOf f.type):Sem (Array (Nat×Nat))).run P w=.ok (gs.map λf=>(f.offset,P.cellsOf f.type)) w:=by
   have:=Zgs (P:=P) w gs.toList wa
   rw[<-bW (xs:=gs),List.mapM_toArray]
   simp only[Sem.run_map,this,Result.andThen_ok,bW]
   congr 1
   apply Array.ext'
   simp
  have EC:(λ(i:Nat)=>(gs.map λf=>(f.offset,P.cellsOf f.type))[i]?)=(λ(i:Nat)=>(fs[i]?).map λ(f:Nat×TypeId×Nat)=>(f.1,f.2.2)):=by
   funext i
   rw[OO]
   simp
   cases gs[i]? <;>rfl
  unfold Instr.build
  simp only[Sem.run_bind,hzero,Result.andThen_ok,run_underlying hd,hpl]
  rw[EC]
  simp only[h1,Sem.run_pure]
 ·rename_i m e iW _ _ _ ds _ ht
  obtain⟨i,u,hi,hu,hz,_,_,_,hzero⟩:=Ie hT ht
  have hk:=nj hT ht
  simp only at hk
  rw[de]at h
  obtain⟨h0,h⟩:=h
  have h0:0<iW:=lE h0
  obtain⟨oP,hK,hr⟩:=Z9n h
  refine⟨_,hK,λc w ρ lL=>?_⟩
  obtain⟨dr,h1,h2⟩:=hr c w ρ u.cells (KG hz c w) lL
  refine⟨.agg dr,?_,dr.toList,by simp,h2⟩
  unfold Instr.build
  simp only[Sem.run_bind,hzero,Result.andThen_ok,run_underlying hk.1,Bs (hk.2▸h0),hk.2]
  simp only[h1,Sem.run_pure]
 ·exact h.elim
def W6(c:Ctx)(w:World)(row:Row)(arr:Array Value):Prop:=
 0<row.sz/\if row.box then∃e,row.es=.gen [e]/\e.length=row.sz/\arr.size=row.sz/\lg c w e arr 0 else im c.I w row.es.l arr 0 row.sz
def Sw(P:Program)(x:Sem Value)(w:World)(c:Ctx)(k:Nat)(row:Row)(d:D):Prop:=
 ∃u arr,x.run P w=.ok u (w.alloc (.cells arr row.ty))/\W6 c w row arr/\(c.R k=none->Mem c w->Rep (c.add k row w.heap.size) (w.alloc (.cells arr row.ty)) d u)
theorem Zqa{c:Ctx}{w:World}:∀{ds:List D} {vs:List Value} {pre:List Value},jG c w ds vs->lg c w ds (pre++vs).toArray pre.length
 |[],_,_,_=>trivial
 |d::ds,[],_,h=>h.elim
 |d::ds,v::vs,pre,h=>by
  refine⟨⟨v,by simp,h.1⟩,?_⟩
  have:=Zqa (pre:=pre++[v]) h.2
  simpa using this
theorem Zru{c:Ctx}{vs:Array Value}(h0:0<sz)(hl:ds.length=sz)(h:jG c w ds vs.toList):W6 c w ⟨true,t,sz,.gen [ds]⟩ vs:=by
 refine⟨h0,?_⟩
 simp only[if_true]
 refine⟨ds,rfl,hl,by rw[<-hl,h.length];simp,?_⟩
 have:=Zqa (pre:=[]) h
 simpa using this
theorem Z3j(P:Program)(t:TypeId)(v:Value)(w:World):(newVar t v).run P w=.ok ⟨w.heap.size,0,none⟩ (w.alloc (.cells v.cells t)):=rfl
theorem Zwa(hT:jC P T){k:TK}{sz b:Nat}{e:Bool}(ht:T.get t=some ⟨k,sz,b,cs,some ds,e⟩)(h0:0<sz)(hl:ds.length=sz)(n:Nat)(c:Ctx)(w:World):
 Sw P (Instr.alloc t true (.tuple #[])) w c n ⟨true,t,sz,.gen [ds]⟩ (.ptr n 0 0):=by
 obtain⟨i,u,hi,hu,hz,_,_,_,hzero⟩:=Ie hT ht
 refine⟨.pointer (some ⟨w.heap.size,0,none⟩),u.cells,?_,Zru h0 hl (KG hz c w),λ_ _=>?_⟩
 ·simp only[Instr.alloc,Sem.run_bind,hzero,Result.andThen_ok,Z3j,Sem.run_pure]
 ·exact⟨_,(Ctx.jr _ _ _ _).1,by simp[Ctx.add],by simp[ag.len],by simp[(Ctx.jr _ _ _ _).2]⟩
theorem xaR{d:D}(h0:0<sz)(hv:d.isVal=true)(hl:d.cells.length=sz)(n:Nat)(c:Ctx)(w:World)(hr:Rep c w d v):
 Sw P (Instr.box t v) w c n ⟨true,t,sz,.gen [d.cells]⟩ (.ptr n 0 0):=by
 refine⟨.pointer (some ⟨w.heap.size,0,none⟩),v.cells,?_,Zru h0 hl (Rep.cells hv hr),λ_ _=>?_⟩
 ·simp only[Instr.box,Sem.run_bind,Z3j,Result.andThen_ok,Sem.run_pure]
 ·exact⟨_,(Ctx.jr _ _ _ _).1,by simp[Ctx.add],by simp[ag.len],by simp[(Ctx.jr _ _ _ _).2]⟩
theorem uN{I:ab}{w:World}:∀{cs:List D} {arr:Array Value} {off:Nat},py I w cs arr off↔ ∀j,j<cs.length->∃v,arr[off+j]?=some v/\gh I w (cs.getD j .dead) v
 |[],arr,off=>by simp[EA,EB]
 |d ::cs,arr,off=>by
  simp only[EA,EB,uN (cs:=cs)]
  constructor
  ·rintro⟨h1,h2⟩ j hj
   cases j with
   |zero=>simpa using h1
   |succ j=>
    have:=h2 j (by simpa using hj)
    rw[show off+1+j=off+(j+1) by omega]at this
    simpa using this
  ·intro h
   refine⟨by simpa using h 0 (by simp),λj hj=>?_⟩
   have:=h (j+1) (by simpa using hj)
   rw[show off+(j+1)=off+1+j by omega]at this
   simpa using this
theorem Q4{I:ab}{w:World}:∀{es:List (List D)} {arr:Array Value} {off sz:Nat},im I w es arr off sz↔ ∀i,i<es.length->(es.getD i []).length=sz/\py I w (es.getD i []) arr (off+i*sz)
 |[],arr,off,sz=>by simp[rV,rF]
 |e ::es,arr,off,sz=>by
  simp only[rV,rF,Q4 (es:=es)]
  constructor
  ·rintro⟨h1,h2,h3⟩ i hi
   cases i with
   |zero=>simpa using⟨h1,h2⟩
   |succ i=>
    have:=h3 i (by simpa using hi)
    rw[show off+sz+i*sz=off+(i+1)*sz by rw[bF];omega]at this
    simpa using this
  ·intro h
   have h0:=h 0 (by simp)
   simp at h0
   refine⟨h0.1,h0.2,λi hi=>?_⟩
   have:=h (i+1) (by simpa using hi)
   rw[show off+(i+1)*sz=off+sz+i*sz by rw[bF];omega]at this
   simpa using this
theorem Zgr{c:Ctx}{w:World}:∀{cs:List D} {arr:Array Value} {off:Nat},lg c w cs arr off↔ ∀j,j<cs.length->∃v,arr[off+j]?=some v/\dc c w (cs.getD j .dead) v
 |[],arr,off=>by simp[lg]
 |d ::cs,arr,off=>by
  simp only[lg,Zgr (cs:=cs)]
  constructor
  ·rintro⟨h1,h2⟩ j hj
   cases j with
   |zero=>simpa using h1
   |succ j=>
    have:=h2 j (by simpa using hj)
    rw[show off+1+j=off+(j+1) by omega]at this
    simpa using this
  ·intro h
   refine⟨by simpa using h 0 (by simp),λj hj=>?_⟩
   have:=h (j+1) (by simpa using hj)
   rw[show off+(j+1)=off+1+j by omega]at this
   simpa using this
theorem Qj:∀{us vs:List Value} {off k:Nat},off+us.length<=vs.length->(Q5 vs off us)[k]?=if off<=k/\k<off+us.length then us[k-off]? else vs[k]?
 |[],vs,off,k,_=>by
  have:¬(off<=k/\k<off):=by omega
  simp[Q5,this]
 |u ::us,vs,off,k,h=>by
  simp only[dD]at h
  unfold Q5
  rw[Qj (us:=us) (by simp;omega)]
  by_cases h1:off+1<=k/\k<off+1+us.length
  ·rw[if_pos h1,if_pos (by simp;omega)]
   rw[show k-off=(k-(off+1))+1 by omega]
   simp
  ·rw[if_neg h1]
   by_cases h2:k=off
   ·subst h2
    rw[if_pos (by simp)]
    simp only[gM,gN]
    rw[gO (by omega)]
   ·rw[if_neg (by simp;omega),gP (by omega)]
theorem W7:∀{us vs:List Value} {off:Nat},(Q5 vs off us).length=vs.length
 |[],_,_=>rfl
 |u::us,vs,off=>by unfold Q5;rw[W7];simp
theorem Iv:∀{us vs:List D} {off k:Nat},off+us.length<=vs.length->(lK vs off us)[k]?=if off<=k/\k<off+us.length then us[k-off]? else vs[k]?
 |[],vs,off,k,_=>by
  have:¬(off<=k/\k<off):=by omega
  simp[lK,this]
 |u ::us,vs,off,k,h=>by
  simp only[dD]at h
  unfold lK
  rw[Iv (us:=us) (by simp;omega)]
  by_cases h1:off+1<=k/\k<off+1+us.length
  ·rw[if_pos h1,if_pos (by simp;omega)]
   rw[show k-off=(k-(off+1))+1 by omega]
   simp
  ·rw[if_neg h1]
   by_cases h2:k=off
   ·subst h2
    rw[if_pos (by simp)]
    simp only[gM,gN]
    rw[gO (by omega)]
   ·rw[if_neg (by simp;omega),gP (by omega)]
theorem dc.plain{c:Ctx}{d:D}(hp:d.plain=true)(h:dc c w d v):gh c.I w d v:=by
 cases d<;>(try(simp[D.plain]at hp;done))
 case bool=>exact sR.2 h
 case int=>exact sS.2 h
 case str=>exact sU.2 h
 case iQ=>exact sV.2 h
 case c8=>exact sW.2 h
 case emp=>exact sX.2 (let⟨a,g,_⟩:=h;⟨a,g⟩)
 obtain⟨a,cap,hv,hc,gz⟩:=h
 refine uo.2 ⟨a,cap,hv,hc,?_⟩
 rcases gz with gz|⟨b,off,arr,ty,fz,ha,hI,hf,hh,hE⟩
 ·exact .inl gz
 ·exact .inr ⟨b,off,arr,ty,fz,ha,hI,hh,U0.2 hE⟩
theorem Z6a{c:Ctx}{es:List (List D)}{arr:List Value}{xs:List D}(h:im c.I w es arr.toArray 0 sz)(hi:i<es.length)(SH:off+xs.length<=sz)
 (hx:jG c w xs us) (hp:xs.all D.plain=true) (ha:i*sz+sz<=arr.length):im c.I w (es.set i (lK (es.getD i []) off xs)) (Q5 arr (i*sz+off) us).toArray 0 sz:=by
 have hlen:=hx.length
 rw[Q4]at h⊢
 intro k hk
 have wT:k<es.length:=by simpa using hk
 obtain⟨h1,h2⟩:=h k wT
 rw[uN]at h2
 by_cases oK:k=i
 ·subst oK
  have he:(es.set k (lK (es.getD k []) off xs)).getD k []=lK (es.getD k []) off xs:=by simp[aV,wT]
  rw[he]
  refine⟨by rw[SG];exact h1,?_⟩
  rw[uN]
  intro j hj
  rw[SG,h1]at hj
  have hg:(lK (es.getD k []) off xs).getD j .dead=if off<=j/\j<off+xs.length then(xs.getD (j-off) .dead)else(es.getD k []).getD j .dead:=by
   simp only[aV]
   rw[Iv (by simp only[aV]at h1;omega)]
   split<;>rfl
  have hv:(Q5 arr (k*sz+off) us).toArray[0+k*sz+j]?=if off<=j/\j<off+xs.length then us[j-off]? else arr[k*sz+j]? :=by
   simp only[bH,bG]
   rw[Qj (by omega)]
   by_cases hc:off<=j/\j<off+xs.length
   ·rw[if_pos (by omega),if_pos hc];congr 1;omega
   ·rw[if_neg (by omega),if_neg hc]
  rw[hg,hv]
  split
  ·rename_i hc
   have SI:j-off<us.length:=by omega
   have hpl:(xs.getD (j-off) .dead).plain=true:=by
    have hm:xs.getD (j-off) .dead∈xs:=by
     simp only[aV,aI (show j-off<xs.length by omega),aR]
     exact fG _
    exact List.all_eq_true.1 hp _ hm
   exact⟨us[j-off],aI SI,dc.plain hpl ((Fa.1 hx).2 _ _ (aI SI))⟩
  ·obtain⟨v,KD,NH⟩:=h2 j (by rw[h1];exact hj)
   exact⟨v,by simpa using KD,NH⟩
 ·have he:(es.set i (lK (es.getD i []) off xs)).getD k []=es.getD k []:=by
   simp[aV,gP (Ne.symm oK)]
  rw[he]
  refine⟨h1,?_⟩
  rw[uN]
  intro j hj
  obtain⟨v,KD,NH⟩:=h2 j hj
  refine⟨v,?_,NH⟩
  simp only[bH,bG]at KD⊢
  rw[Qj (by omega),if_neg]
  ·exact KD
  ·rw[h1]at hj
   rintro⟨g1,g2⟩
   rcases Nat.lt_or_gt_of_ne oK with bc|bc
   ·have:=bD sz (show k+1<=i by omega)
    rw[bF]at this
    omega
   ·have:=bD sz (show i+1<=k by omega)
    rw[bF]at this
    omega
theorem Zcm{es:List (List D)}(h:im I w es arr 0 sz)(h0:0<sz)(hi:i<es.length):i*sz+sz<=arr.size:=by
 obtain⟨h1,h2⟩:=Q4.1 h i hi
 obtain⟨v,hv,_⟩:=uN.1 h2 (sz-1) (by omega)
 have:=(Array.getElem?_eq_some_iff.1 hv).1
 omega
def Ctx.kd(c:Ctx)(r:Nat)(row:Row):Ctx:={c with R:=λs=>if s=r then some row else c.R s}
theorem Us(w:World)(g:Nat)(cs:Array Value):Fr (λb=>b=g) w (w.setRow g cs):=
 ⟨rfl,rfl,rfl,by simp[World.setRow],λb _ hb=>setRow_other w g b cs hb⟩
theorem Mem.write{c:Ctx}(hm:Mem c w){jW arr:Array Value}(hr:c.R r=some row)(hV:¬c.V r)(hh:w.heap[c.ρ r]?=some (.cells jW row.ty (0,0)))(ga:arr.size=jW.size)
 (h1:aq.box=row.box) (h2:aq.ty=row.ty) (h3:aq.sz=row.sz) (h4:aq.es.l.length=row.es.l.length):
 ju c w (c.kd r aq) (w.setRow (c.ρ r) arr)/\(W6 (c.kd r aq) (w.setRow (c.ρ r) arr) aq arr->Mem (c.kd r aq) (w.setRow (c.ρ r) arr)):=by
 have fe:(w.setRow (c.ρ r) arr).heap[c.ρ r]?=some (.cells arr row.ty (0,0)):=setRow_heap w _ _ _ _ _ hh
 have sJ:∀s x,c.R s=some x->¬c.V s->s≠r->(w.setRow (c.ρ r) arr).heap[c.ρ s]?=w.heap[c.ρ s]? :=λs x hs hv ia=>setRow_other w _ _ _ (λe=>ia (hm.inj s r x row hs hr hv hV e))
 have hg:ju c w (c.kd r aq) (w.setRow (c.ρ r) arr):=by
  refine⟨rfl,aX _,λb hb=>⟨hb,setRow_other w _ _ _ (λe=>(hm.fk b hb).2 r row hr hV e.symm)⟩,λs x hs=>?_⟩
  by_cases e:s=r
  ·subst e
   rw[hr]at hs;cases hs
   exact⟨aq,by simp[Ctx.kd],h1,h2,h3,h4,rfl,Iff.rfl,λ_ a ha=>⟨arr,fe,by rw[hh]at ha;cases ha;exact ga⟩⟩
  ·exact⟨x,by simp[Ctx.kd,e,hs],rfl,rfl,rfl,rfl,rfl,Iff.rfl,λnv a ha=>⟨a,by rw[sJ s x hs nv e];exact ha,rfl⟩⟩
 refine⟨hg,λhi=>⟨λs x hs=>?_,λs q x y hs hq v1 v2 he=>?_,λb hb=>?_,by show c.top<=(w.setRow _ _).heap.size;simpa[World.setRow]using hm.top,hm.kb.mono hg.I⟩⟩
 ·by_cases e:s=r
  ·subst e
   simp only[Ctx.kd,if_true,Option.some.injEq]at hs
   subst hs
   exact .inr ⟨hV,arr,by rw[h2];exact fe,hi.1,hi.2⟩
  ·have jk:c.R s=some x:=by simpa[Ctx.kd,e]using hs
   exact uf hg rfl Iff.rfl (λnv=>sJ s x jk nv e) (hm.row s x jk)
 ·have jW:∀s x,(c.kd r aq).R s=some x->∃x',c.R s=some x':=λs x hs=>by
   by_cases e:s=r
   ·exact⟨row,by rw[e];exact hr⟩
   ·exact⟨x,by simpa[Ctx.kd,e]using hs⟩
  obtain⟨x',j5⟩:=jW s x hs
  obtain⟨y',AR⟩:=jW q y hq
  exact hm.inj s q x' y' j5 AR v1 v2 he
 ·obtain⟨g1,g2⟩:=hm.fk b hb
  refine⟨by simpa[World.setRow]using g1,λs x hs hv=>?_⟩
  by_cases e:s=r
  ·subst e;exact g2 s row hr hV
  ·exact g2 s x (by simpa[Ctx.kd,e]using hs) hv
theorem Zsf(hs:P.cellsOf t=n)(h0:0<n){g o:Nat}{cur:Array Value}(hg:w.heap[g]?=some (.cells cur ty (0,0)))(hn:v.cells.size=n)(hr:o+n<=cur.size)(h1:∀u∈v.cells.toList,u.oneCell'=true):
 (Instr.storeAt t (.pointer (some ⟨g,o,none⟩)) v).run P w=.ok () (w.setRow g (Q5 cur.toList o v.cells.toList).toArray):=by
 have h:=run_storeCells_at (P:=P) g o ty v.cells.toList 0 cur w hg (by simp;omega) h1
 have ia:¬v.cells.size≠P.cellsOf t:=by omega
 simp only[Instr.storeAt,Instr.sureAddr,Sem.run_bind,Sem.run_pure,Result.andThen_ok,storeVar,Bs (hs▸h0),Sem.run_ite,ia,if_false,h]
 congr 3
 apply gQ
 intro k
 rw[Qj (by simp;omega)]
 simp only[aB,Array.length_toList]
 by_cases hc:o<=k/\k<o+v.cells.size
 ·rw[if_pos hc,aM,bJ (by simp;omega),bI (by simp;omega)]
  congr 1;simp;omega
 ·rw[if_neg hc]
  by_cases hk:k<o
  ·rw[aM,bI (by simp;omega),List.getElem?_take_of_lt hk]
  ·rw[bJ (by simp;omega),List.getElem?_drop]
   congr 1;simp;omega
theorem jG.one{c:Ctx}{w:World}:∀{ds:List D} {vs:List Value},jG c w ds vs->∀u∈vs,u.oneCell'=true
 |[],[],_,_,h=>by simp at h
 |d::ds,v::vs,h,u,hu=>by
  rcases List.mem_cons.1 hu with e|e
  ·subst e;exact dc.one h.1
  ·exact jG.one h.2 u e
theorem Zpe{c:Ctx}{arr:List Value}{xs:List D}(h:lg c w e arr.toArray 0)(SH:off+xs.length<=e.length)(he:e.length=arr.length)
 (hx:jG c w xs us):lg c w (lK e off xs) (Q5 arr off us).toArray 0:=by
 have hlen:=hx.length
 rw[Zgr]at h⊢
 intro j hj
 rw[SG]at hj
 simp only[aV,bH,bG]at h⊢
 rw[Iv SH,Qj (by omega)]
 by_cases hc:off<=j/\j<off+xs.length
 ·rw[if_pos hc,if_pos (by omega)]
  have SI:j-off<us.length:=by omega
  exact⟨us[j-off],aI SI,(Fa.1 hx).2 _ _ (aI SI)⟩
 ·rw[if_neg hc,if_neg (by omega)]
  exact h j hj
def tO(P:Program)(x:Sem Unit)(w:World)(c:Ctx)(R':Rows):Prop:=
 ∃r aq arr w',x.run P w=.ok () w'/\w'=w.setRow (c.ρ r) arr/\(∃row,c.R r=some row)/\¬c.V r/\ju c w (c.kd r aq) w'/\Mem (c.kd r aq) w'/\∀s,(c.kd r aq).R s=R'.getD s none
theorem Ziv{k:IntKind}{l:List Int}:∀{n j i:Nat},i<n->(Iw k l j n)[i]?=some (.int k (l.getD (j+i) 0))
 |n+1,j,0,_=>by simp[Iw]
 |n+1,j,i+1,h=>by
  have:=Ziv (k:=k) (l:=l) (n:=n) (j:=j+1) (i:=i) (by omega)
  rw[show j+1+i=j+(i+1) by omega]at this
  simpa[Iw]using this
theorem Qs9{k:IntKind}{l:List Int}:∀{n j:Nat},(Iw k l j n).length=n
 |0,_=>rfl
 |n+1,j=>by simp[Iw,Qs9 (n:=n)]
theorem Zid{l:List Bool}:∀{n j i:Nat},i<n->(Ix l j n)[i]?=some (.bool (l.getD (j+i) false))
 |n+1,j,0,_=>by simp[Ix]
 |n+1,j,i+1,h=>by
  have:=Zid (l:=l) (n:=n) (j:=j+1) (i:=i) (by omega)
  rw[show j+1+i=j+(i+1) by omega]at this
  simpa[Ix]using this
theorem Qru{l:List Bool}:∀{n j:Nat},(Ix l j n).length=n
 |0,_=>rfl
 |n+1,j=>by simp[Ix,Qru (n:=n)]
theorem Zbk{e:List D}:∀{n off:Nat},(ints e off n).length=n
 |0,_=>rfl
 |n+1,off=>by simp[ints,Zbk (n:=n)]
theorem Z6v{e:List D}:∀{n off:Nat},(ah e off n).length=n
 |0,_=>rfl
 |n+1,off=>by simp[ah,Z6v (n:=n)]
theorem Fo(h:R.getD r none=some row)(s:Nat):(R.set r (some aq)).getD s none=if s=r then some aq else R.getD s none:=by
 have bc:r<R.length:=by
  by_cases hl:r<R.length
  ·exact hl
  ·rw[aV,aJ (by omega)]at h;cases h
 by_cases e:s=r
 ·subst e
  simp[aV,bc]
 ·simp[aV,e,gP (Ne.symm e)]
theorem Zvo(kP:P.cellsOf t=n)(h0:0<n){box:Bool}{es jl:ag}{d:D}
 (hR:R.getD r none=some ⟨box,ty,sz,es⟩) (hv:d.isVal=true) (hn:d.cells.length=n) (hle:off+n<=sz) (hp:box=false->d.cells.all D.plain=true)
 {c:Ctx} {w:World} {v:Value} (hm:Mem c w) (hA:∀r,c.R r=R.getD r none) (hV:¬c.V r) (hi:i<es.l.length) (gz:jl.l=es.l.set i (lK (es.l.getD i []) off d.cells)) (Ap:box=true->jl=.gen [lK (es.get i) off d.cells]) (hd:Rep c w d v):
 tO P (Instr.storeAt t (.pointer (some ⟨c.ρ r,i*sz+off,none⟩)) v) w c (R.set r (some ⟨box,ty,sz,jl⟩)):=by
 have g1:c.R r=some ⟨box,ty,sz,es⟩:=by rw[hA];exact hR
 have hx:=Rep.cells hv hd
 obtain⟨jW,ho,hs,hb⟩:=hm.real g1 hV
 have hvn:v.cells.size=n:=by rw[<-hn,hx.length];simp
 simp only at ho hs hb
 have fin:∀aq:Row,aq=⟨box,ty,sz,jl⟩->i*sz+off+n<=jW.size->
  (∀c' w',ju c w c' w'->if aq.box then∃e,aq.es=.gen [e]/\e.length=aq.sz/\(Q5 jW.toList (i*sz+off) v.cells.toList).toArray.size=aq.sz/\lg c' w' e (Q5 jW.toList (i*sz+off) v.cells.toList).toArray 0
   else im c'.I w' aq.es.l (Q5 jW.toList (i*sz+off) v.cells.toList).toArray 0 aq.sz)->tO P (Instr.storeAt t (.pointer (some ⟨c.ρ r,i*sz+off,none⟩)) v) w c (R.set r (some aq)):=by
  intro aq c6 ga fe
  have il:=Zsf (P:=P) kP h0 (o:=i*sz+off) ho hvn ga hx.one
  have Ol:(Q5 jW.toList (i*sz+off) v.cells.toList).toArray.size=jW.size:=by simp[W7]
  have hw:=hm.write (aq:=aq) g1 hV ho Ol (by rw[c6]) (by rw[c6]) (by rw[c6]) (by rw[c6];simp only[gz,List.length_set])
  refine⟨r,aq,_,_,il,rfl,⟨_,g1⟩,hV,hw.1,hw.2 ⟨by rw[c6];exact hs,fe _ _ hw.1⟩,λs=>?_⟩
  rw[Fo hR]
  simp only[Ctx.kd]
  split
  ·rfl
  ·exact hA s
 cases box with
 |true=>
  simp only[if_true]at hb
  obtain⟨e,k1,k2,k3,k4⟩:=hb
  rw[k1]at hi gz Ap
  have rp:i=0:=by simpa[ag.l]using hi
  subst rp
  simp only[gR,bG]at fin⊢
  refine fin _ rfl (by omega) λc' w' hg=>?_
  simp only[if_true]
  refine⟨lK e off d.cells,Ap rfl,by rw[SG];exact k2,by simp[W7,k3],OE hg (Zpe (by simpa using k4) (by omega) (by simp;omega) hx)⟩
 |false=>
  simp only[aA,if_false]at hb
  have lq:=Zcm hb hs hi
  refine fin _ rfl (by omega) λc' w' hg=>?_
  simp only[aA,if_false]
  rw[gz]
  exact ob hg.I _ _ _ _ (Z6a (c:=c) (by simpa using hb) hi (by omega) hx (hp rfl) (by simpa using lq))
theorem qaS{v:Int}(h:DK k e off len=true)(hl:off+len<=e.length)(hn:n<len):
 lK e off (Iw k ((ints e off len).set n v) 0 len)=lK e (off+n) [.int k v]:=by
 apply gQ
 intro j
 rw[Iv (by rw[Qs9];omega),Iv (by simp;omega)]
 simp only[Qs9,dD,dE]
 by_cases h1:off<=j/\j<off+len
 ·rw[if_pos h1,Ziv (by omega)]
  by_cases h2:j=off+n
  ·subst h2
   rw[if_pos (by omega)]
   simp[aV,Zbk,show off+n-off=n by omega,hn]
  ·rw[if_neg (by omega)]
   have hg:=WM (e:=e) (off:=off) (show j-off<len by omega)
   have hi:=D.kH (WO h (show j-off<len by omega))
   rw[show off+(j-off)=j by omega]at hg hi
   have hj:e[j]?=some e[j]:=aI (by omega)
   simp only[aV,hj,aR]at hg hi
   rw[hj]
   simp only[aV,bG]
   rw[gP (by omega)]
   rw[hg,<-hi]
 ·rw[if_neg h1,if_neg (by omega)]
theorem zaB{v:Bool}(h:Ip e off len=true)(hl:off+len<=e.length)(hn:n<len):
 lK e off (Ix ((ah e off len).set n v) 0 len)=lK e (off+n) [.bool v]:=by
 apply gQ
 intro j
 rw[Iv (by rw[Qru];omega),Iv (by simp;omega)]
 simp only[Qru,dD,dE]
 by_cases h1:off<=j/\j<off+len
 ·rw[if_pos h1,Zid (by omega)]
  by_cases h2:j=off+n
  ·subst h2
   rw[if_pos (by omega)]
   simp[aV,Z6v,show off+n-off=n by omega,hn]
  ·rw[if_neg (by omega)]
   have hg:=WN (e:=e) (off:=off) (show j-off<len by omega)
   have hi:=D.kI (WQ h (show j-off<len by omega))
   rw[show off+(j-off)=j by omega]at hg hi
   have hj:e[j]?=some e[j]:=aI (by omega)
   simp only[aV,hj,aR]at hg hi
   rw[hj]
   simp only[aV,bG]
   rw[gP (by omega)]
   rw[hg,<-hi]
 ·rw[if_neg h1,if_neg (by omega)]
theorem Zyv(hT:jC P T){x d:D}(h:Iy T t x d R K):
    ∃R',K .dead R'/\ ∀c w a v,Mem c w->(∀r,c.R r=R.getD r none)->Rep c w x a->Rep c w d v->tO P (Instr.storeAt t a v) w c R':=by
  unfold Iy at h
  cases ht:T.get t with
  |none=>simp only[ht]at h
  | some ti =>
    simp only[ht]at h
    obtain⟨i0,rp,Cy,_,Lx,AS,_⟩:=Ez (hT.get ht)
    have kP:P.cellsOf t=ti.size:=by simp [Program.cellsOf,rp,Cy]
    cases x<;>simp only at h
    case ptr r i off=>
      cases hR:R.getD r none with
      |none=>simp only[hR]at h
      | some row=>
        obtain⟨box,ty,sz,es⟩:=row
        simp only[hR,de,aE]at h
        obtain⟨⟨⟨⟨h0,hv⟩,hn⟩,hle⟩,h⟩:=h
        have h0:0<ti.size:=lE h0
        have hn:=bE hn
        have hle:=lE hle
        have go: ∀jl:ag,(box=false->d.cells.all D.plain=true)-> ∀c w a v,Mem c w->(∀r,c.R r=R.getD r none)->Rep c w (.ptr r i off) a->Rep c w d v->
            (∃row:Row,c.R r=some row/\row=⟨box,ty,sz,es⟩/\ ¬c.V r/\i<es.l.length)/\(jl.l=es.l.set i (lK (es.l.getD i []) off d.cells)->(box=true->jl= .gen [lK (es.get i) off d.cells])->tO P (Instr.storeAt t a v) w c (R.set r (some ⟨box,ty,sz,jl⟩))):=by
          intro jl hp c w a v hm hA ha hd
          obtain⟨row,g1,gV,g2,ha⟩:=ha
          have c6:row=⟨box,ty,sz,es⟩:=by rw[hA,hR]at g1;exact(Option.some.inj g1).symm
          subst c6
          subst ha
          exact⟨⟨_,g1,rfl,gV,g2⟩,λhe Ap=>Zvo kP h0 hR hv hn hle hp hm hA gV g2 he Ap hd⟩
        cases box with
        | true=>
          simp only[D.ff,nP]at h
          refine⟨_,h,λc w a v hm hA ha hd=> ?_⟩
          obtain⟨⟨row,g1,c6,gV,g2⟩,hw⟩:=go (.gen [lK (es.get i) off d.cells]) (by simp) c w a v hm hA ha hd
          subst c6
          obtain⟨jW,ho,hs,hb⟩:=hm.real g1 gV
          simp only[if_true]at hb
          obtain⟨e,k1,k2,k3,k4⟩:=hb
          have iy:=ag.nQ es (show i<es.len by simpa using g2)
          refine hw ?_ (λ_=>rfl)
          rw[<-iy,k1]
          rw[k1]at g2
          have rp:i=0:=by simpa [ag.l] using g2
          subst rp
          rfl
        | false=>
          simp only[nP]at h
          refine⟨_,h.2,λc w a v hm hA ha hd=> ?_⟩
          obtain⟨⟨row,g1,c6,gV,g2⟩,hw⟩:=go _ (λ_=>h.1) c w a v hm hA ha hd
          exact hw (by rw[ag.SJ,ag.nQ es (show i<es.len by simpa using g2)]) (by simp)
    case pa r i off len k n=>
      cases hR:R.getD r none with
      |none=>simp only[hR]at h
      | some row=>
        obtain⟨box,ty,sz,es⟩:=row
        simp only[hR,de,aE]at h
        obtain⟨⟨Gx,hle⟩,h⟩:=h
        subst Gx
        have hle:=lE hle
        have go: ∀(x:D) (xs:List D),x.isVal=true->x.cells=[x]->ti.size=1->(n<len->off+len<=(es.get i).length->lK (es.get i) off xs=lK (es.get i) (off+n) [x])-> ∀c w a v,Mem c w->(∀r,c.R r=R.getD r none)->Rep c w (.pa r i off len k n) a->Rep c w x v->
            tO P (Instr.storeAt t a v) w c (R.set r (some ⟨true,ty,sz, .gen [lK (es.get i) off xs]⟩)):=by
          intro x xs hv hc ga heq c w a v hm hA ha hd
          obtain⟨hn,row,g1,gV,g2,ha⟩:=ha
          have c6:row=⟨true,ty,sz,es⟩:=by rw[hA,hR]at g1;exact(Option.some.inj g1).symm
          subst c6
          subst ha
          obtain⟨jW,ho,hs,hb⟩:=hm.real g1 gV
          simp only[if_true]at hb
          obtain⟨e,k1,k2,k3,k4⟩:=hb
          simp only at g2
          have iy:=ag.nQ es (show i<es.len by simpa using g2)
          have hlen:(es.get i).length=sz:=by
            rw[<-iy,k1]
            rw[k1]at g2
            have rp:i=0:=by simpa [ag.l] using g2
            subst rp
            exact k2
          refine Zvo (off:=off+n) kP (by omega) hR hv (by rw[hc,ga];rfl) (by omega) (by simp) hm hA gV g2 ?_ (λ_=>by rw[hc,heq hn (by omega)]) hd
          rw[iy,hc,heq hn (by omega)]
          rw[k1]at g2⊢
          have rp:i=0:=by simpa [ag.l] using g2
          subst rp
          rfl
        split at h
        . rename_i j k' k'' v hk
          simp only[decide_eq_true_eq,D.ff,nP]at h
          obtain⟨⟨⟨rfl,rfl⟩,jf⟩,h⟩:=h
          refine⟨_,h,λc w a u hm hA ha hd=>go (.int _ v) _ rfl rfl (WR (hT.get ht) (by rw[hk];simp [TK.isAgg])) (λhn hl=>qaS jf hl hn) c w a u hm hA ha hd⟩
        . rename_i v hk
          simp only[D.ff,nP]at h
          obtain⟨jf,h⟩:=h
          refine⟨_,h,λc w a u hm hA ha hd=>go (.bool v) _ rfl rfl (WR (hT.get ht) (by rw[hk];simp [TK.isAgg])) (λhn hl=>zaB jf hl hn) c w a u hm hA ha hd⟩
        . exact h.elim
def sv:D->Value
 |.int k n=>.int k n
 |.bool b=>.bool b
 |.str s=>.string ⟨s.toArray⟩
 |_=>undef
def rP(xs:Array Value)(o:Nat)(az:List D):Prop:=∀j d,az[j]?=some d->xs[o+j]?=some (sv d)
theorem SK:∀{t u:List rT} {l:List D},fits (t++u) l=true->∃a b,l=a++b/\fits t a=true/\fits u b=true/\a.length=t.length
 |[],u,l,h=>⟨[],l,rfl,rfl,h,rfl⟩
 |c::t,u,[],h=>by cases c<;>simp[fits]at h
 |c ::t,u,d::l,h=>by
  cases c<;>simp only[cH,fits,aE,aA]at h
  all_goals
   obtain⟨a,b,h1,h2,h3,h4⟩:=SK h.2
   exact⟨d::a,b,by rw[h1];rfl,by simp[fits,h.1,h2],h3,by simp[h4]⟩
theorem tJ:∀{t:List rT} {l:List D},fits t l=true->l.length=t.length
 |[],[],_=>rfl
 |[],_::_,h=>by simp[fits]at h
 |c::t,[],h=>by cases c<;>simp[fits]at h
 |c::t,d::l,h=>by
  cases c<;>simp only[fits,aE,aA]at h
  all_goals simp[tJ h.2]
theorem Z3q:∀{a b a' b':List D},a.length=b.length->eqs (a++a') (b++b')=(eqs a b&&eqs a' b')
 |[],[],_,_,_=>by simp[eqs]
 |x::a,y::b,a',b',h=>by
  simp only[cH,eqs]
  rw[Z3q (by simpa using h),Bool.and_assoc]
theorem Ir(hd:P.underlying t=some d)(ha:Sr d=false)(hv:xs[o]?=some v)(w:World):(part t xs o).run P w=.ok v w:=by
 unfold part
 rw[Sem.run_bind,Za hd,NG hd,ha,Result.andThen_ok]
 simp[hv]
theorem WV(hd:P.underlying t=some d)(ha:Sr d=true)(h0:0<P.cellsOf t)(xs:Array Value)(o:Nat)(w:World):
 (part t xs o).run P w=.ok (.agg (xs.extract o (o+P.cellsOf t))) w:=by
 unfold part
 rw[Sem.run_bind,Za hd,NG hd,ha,Result.andThen_ok]
 simp only[if_true,Sem.run_bind,Bs h0,Result.andThen_ok,Sem.run_pure]
theorem rP.extract{az:List D}(h:rP xs o az)(hn:az.length<=n):rP (xs.extract o (o+n)) 0 az:=by
 intro j d hj
 have bc:=(List.getElem?_eq_some_iff.1 hj).1
 have:=h j d hj
 have hx:=(Array.getElem?_eq_some_iff.1 this).1
 simp only[bG,Array.getElem?_extract]
 rw[if_pos (by omega)]
 exact this
theorem rP.left{a b:List D}(h:rP xs o (a++b)):rP xs o a:=λj d hj=>h j d (by rw[bI (List.getElem?_eq_some_iff.1 hj).1];exact hj)
theorem rP.right{a b:List D}(h:rP xs o (a++b)):rP xs (o+a.length) b:=λj d hj=>by
 rw[gH];exact h (a.length+j) d (by rw[bJ (by omega)];simpa using hj)
def o7(t:TypeId)(m:Nat)(xs ys:Array Value)(o:Nat):Sem Bool:=do
 let a<-part t xs o
 let b<-part t ys o
 Op.equalIn m t a b
theorem Zhk{P:Program}{n m:Nat}(ih:∀t,se P n t=true->P.cellsOf t=(mJ P n t).length->0<P.cellsOf t->∀(xs ys:Array Value) (o:Nat) (az bs:List D) (w:World),fits (mJ P n t) az=true->fits (mJ P n t) bs=true->rP xs o az->rP ys o bs->
 (o7 t m xs ys o).run P w=.ok (eqs az bs) w):
 ∀ (fs:List Field) (o:Nat) (az bs:List D) (xs ys:Array Value) (w:World),WH P (se P n) (λu=>(mJ P n u).length) fs o=true->fits (fs.flatMap λf=>mJ P n f.type) az=true->fits (fs.flatMap λf=>mJ P n f.type) bs=true->
  rP xs o az->rP ys o bs->(Op.eqFields m xs ys fs).run P w=.ok (eqs az bs) w
 |[],o,az,bs,xs,ys,w,_,ha,hb,_,_=>by
  have h1:=tJ ha
  have h2:=tJ hb
  simp at h1 h2
  subst h1;subst h2
  simp[Op.eqFields,eqs]
 |f ::fs,o,az,bs,xs,ys,w,ho,ha,hb,sa,sb=>by
  simp only[WH,aE]at ho
  obtain⟨⟨⟨⟨⟨h1,h2⟩,h3⟩,h4⟩,h5⟩,h6⟩:=ho
  have h2:=bE h2
  have h3:=bE h3
  have h4:0<(mJ P n f.type).length:=lE h4
  simp only[List.flatMap_cons]at ha hb
  obtain⟨a1,a2,rfl,fa1,fa2,la⟩:=SK ha
  obtain⟨b1,b2,rfl,fb1,fb2,lb⟩:=SK hb
  have jm:=ih f.type h5 h3 (by omega) xs ys o a1 b1 w fa1 fb1 sa.left sb.left
  have Az:=Zhk ih fs (o+(mJ P n f.type).length) a2 b2 xs ys w h6 fa2 fb2 (by rw[<-la];exact sa.right) (by rw[<-lb];exact sb.right)
  have ia:f.name≠ "_" :=by simpa using h1
  simp only[Op.eqFields,ia,ne_eq,not_false_eq_true,if_true,h2]
  unfold o7 at jm
  rw[Z3q (by omega)]
  rw[Sem.run_bind]at jm⊢
  cases hp:(part f.type xs o).run P w with
  |halt x w1=>rw[hp]at jm;simp at jm
  |ok a w1=>
   rw[hp]at jm
   simp only[Result.andThen_ok,Sem.run_bind]at jm⊢
   cases hq:(part f.type ys o).run P w1 with
   |halt x w2=>rw[hq]at jm;simp at jm
   |ok b w2=>
    rw[hq]at jm
    simp only[Result.andThen_ok]at jm⊢
    rw[jm]
    simp only[Result.andThen_ok]
    cases he:eqs a1 b1 with
    |true=>simpa[he]using Az
    |false=>simp
theorem Zox{P:Program}{n m:Nat}{e:TypeId}{k:Nat}(hk:P.cellsOf e=k)(hl:(mJ P n e).length=k)(ih:∀(xs ys:Array Value) (o:Nat) (az bs:List D) (w:World),fits (mJ P n e) az=true->fits (mJ P n e) bs=true->rP xs o az->rP ys o bs->
 (o7 e m xs ys o).run P w=.ok (eqs az bs) w):
 ∀ (len i:Nat) (az bs:List D) (xs ys:Array Value) (w:World),fits (cO len (mJ P n e)).flatten az=true->fits (cO len (mJ P n e)).flatten bs=true->rP xs (i*k) az->rP ys (i*k) bs->
  (do
   let r<-forIn (List.range' i len) ((none,()):Option Bool×Unit) λj _=>do
    let a<-part e xs (j*k)
    let b<-part e ys (j*k)
    let q<-Op.equalIn m e a b
    if(!q)=true then pure (ForInStep.done (some false,()))else pure (ForInStep.yield (none,()))
   match r.1 with
   |some a=>pure a
   |none=>pure true:Sem Bool).run P w=.ok (eqs az bs) w
 |0,i,az,bs,xs,ys,w,ha,hb,_,_=>by
  have h1:=tJ ha
  have h2:=tJ hb
  simp at h1 h2
  subst h1;subst h2
  simp[eqs]
 |len + 1,i,az,bs,xs,ys,w,ha,hb,sa,sb=>by
  simp only[List.replicate_succ,List.flatten_cons]at ha hb
  obtain⟨a1,a2,rfl,fa1,fa2,la⟩:=SK ha
  obtain⟨b1,b2,rfl,fb1,fb2,lb⟩:=SK hb
  have jm:=ih xs ys (i*k) a1 b1 w fa1 fb1 sa.left sb.left
  have Az:=Zox hk hl ih len (i+1) a2 b2 xs ys w fa2 fb2 (by rw[bF];have:=sa.right;rwa [la,hl]at this) (by rw[bF];have:=sb.right;rwa [lb,hl]at this)
  unfold o7 at jm
  rw[Z3q (by omega)]
  simp only[List.range'_succ,List.forIn_cons,Sem.run_bind]at jm⊢
  cases hp:(part e xs (i*k)).run P w with
  |halt x w1=>rw[hp]at jm;simp at jm
  |ok a w1=>
   rw[hp]at jm
   simp only[Result.andThen_ok]at jm⊢
   cases hq:(part e ys (i*k)).run P w1 with
   |halt x w2=>rw[hq]at jm;simp at jm
   |ok b w2=>
    rw[hq]at jm
    simp only[Result.andThen_ok]at jm⊢
    rw[jm]
    simp only[Result.andThen_ok]
    cases he:eqs a1 b1 with
    |true=>
     simp only[Sem.run_bind]at Az
     simpa[he]using Az
    |false=>simp
theorem Zsa{P:Program}:∀(n:Nat) (t:TypeId) (m:Nat),n<=m->se P n t=true->P.cellsOf t=(mJ P n t).length->0<P.cellsOf t->∀(xs ys:Array Value) (o:Nat) (az bs:List D) (w:World),
 fits (mJ P n t) az=true->fits (mJ P n t) bs=true->rP xs o az->rP ys o bs->(o7 t m xs ys o).run P w=.ok (eqs az bs) w
 |0,t,m,_,h,_,_,_,_,_,_,_,_,_,_,_,_=>by simp[se]at h
 |n+1,t,0,hm,_,_,_,_,_,_,_,_,_,_,_,_,_=>by omega
 |n + 1,t,m+1,hm,h,hc,h0,xs,ys,o,az,bs,w,ha,hb,sa,sb=>by
  unfold se at h
  split at h
  ·rename_i k hd
   simp only[mJ,hd]at ha hb
   have h1:=tJ ha;have h2:=tJ hb
   obtain⟨x,rfl⟩:=List.length_eq_one_iff.1 h1
   obtain⟨y,rfl⟩:=List.length_eq_one_iff.1 h2
   simp only[fits,gS]at ha hb
   have hx:=sa 0 x rfl;have hy:=sb 0 y rfl
   rw[D.kH ha]at hx⊢
   rw[D.kH hb]at hy⊢
   simp only[sv,aB]at hx hy
   simp only[o7,Sem.run_bind,Ir hd rfl hx,Ir hd rfl hy,Result.andThen_ok,run_equalIn_int w m t k k _ _ hd,eqs,Rv,gS]
  ·rename_i hd
   simp only[mJ,hd]at ha hb
   have h1:=tJ ha;have h2:=tJ hb
   obtain⟨x,rfl⟩:=List.length_eq_one_iff.1 h1
   obtain⟨y,rfl⟩:=List.length_eq_one_iff.1 h2
   simp only[fits,gS]at ha hb
   have hx:=sa 0 x rfl;have hy:=sb 0 y rfl
   rw[D.kI ha]at hx⊢
   rw[D.kI hb]at hy⊢
   simp only[sv,aB]at hx hy
   simp only[o7,Sem.run_bind,Ir hd rfl hx,Ir hd rfl hy,Result.andThen_ok,run_equalIn_bool' w m t _ _ hd,eqs,Rv,gS]
  ·rename_i hd
   simp only[mJ,hd]at ha hb
   have h1:=tJ ha;have h2:=tJ hb
   obtain⟨x,rfl⟩:=List.length_eq_one_iff.1 h1
   obtain⟨y,rfl⟩:=List.length_eq_one_iff.1 h2
   simp only[fits,gS]at ha hb
   have hx:=sa 0 x rfl;have hy:=sb 0 y rfl
   cases x<;>simp[D.isStr]at ha
   cases y<;>simp[D.isStr]at hb
   rename_i s u
   simp only[sv,aB]at hx hy
   simp only[o7,Sem.run_bind,Ir hd rfl hx,Ir hd rfl hy,Result.andThen_ok,run_equalIn_string w m t _ _ hd,eqs,Rv,gS,ByteArray.toList_mk]
   congr 1
   rw[eC];simp
  ·rename_i fs hd
   simp only[aE,Bool.not_eq_true']at h
   have hf:P.fieldsOf t=fs:=by simp[Program.fieldsOf,hd]
   have hl:=tJ ha
   have rr:=tJ hb
   simp only[mJ,hd]at ha hb
   simp only[o7,Sem.run_bind,WV hd rfl h0,Result.andThen_ok]
   rw[run_equalIn_struct w m t _ _ (by rw[hf];exact hd) h.1,hf]
   refine Zhk (n:=n) (λu hu hcu h0u xs ys o az bs w=>Zsa n u m (by omega) hu hcu h0u xs ys o az bs w) fs.toList 0 az bs _ _ w h.2 ha hb (sa.extract (by omega)) (sb.extract (by omega))
  ·rename_i len e hd
   simp only[aE]at h
   obtain⟨⟨h1,h2⟩,h3⟩:=h
   have h1:=bE h1
   have h2:0<P.cellsOf e:=lE h2
   have hl:=tJ ha
   have rr:=tJ hb
   simp only[mJ,hd]at ha hb
   simp only[o7,Sem.run_bind,WV hd rfl h0,Result.andThen_ok]
   have:=Zox (P:=P) (n:=n) (m:=m) (e:=e) rfl h1.symm (λxs ys o az bs w=>Zsa n e m (by omega) h3 h1 h2 xs ys o az bs w) len 0 az bs (xs.extract o (o+P.cellsOf t)) (ys.extract o (o+P.cellsOf t)) w ha hb
    (by rw[gR];exact sa.extract (by omega)) (by rw[gR];exact sb.extract (by omega))
   rw[<-this]
   simp only[Op.equalIn,Sem.run_bind,run_underlying hd,Result.andThen_ok,Bs h2,Std.Legacy.Range.forIn_eq_forIn_range',Std.Legacy.Range.size,gL,Nat.add_sub_cancel,Nat.div_one]
   congr 1
   funext r w'
   obtain⟨f,u⟩:=r
   cases f<;>rfl
  ·cases h
theorem Nx:∀{vs:List Value} {ds:List D},Cc vs=some ds->ds.length=vs.length
 |[],ds,h=>by simp[Cc]at h;subst h;rfl
 |v ::vs,ds,h=>by
  simp only[Cc]at h
  split at h
  ·rename_i d l h1 h2
   simp at h;subst h
   simp[Nx h2]
  ·cases h
theorem Z4{zs:Array Value}{sz n m:Nat}(hz:z.length=sz)(hs:zs.size=sz)(hr:∀j v,zs[j]?=some v->gh I w (z.getD j .dead) v)(hm:n<=m):
 im I w (cO n z) (madeCells zs (m*sz)) 0 sz:=by
 rw[Q4]
 intro i hi
 have iT:i<n:=by simpa using hi
 have he:(cO n z).getD i []=z:=by simp[aV,iT]
 rw[he]
 refine⟨hz,?_⟩
 rw[uN]
 intro j hj
 have bc:i*sz+j<m*sz:=by
  have:=bD sz (show i+1<=m by omega)
  rw[bF]at this
  omega
 have Jal:(i*sz+j)%sz=j:=by rw[Nat.add_comm,Nat.add_mul_mod_self_right,Nat.mod_eq_of_lt (by omega)]
 have EV:j<zs.size:=by omega
 refine⟨zs[j],?_,hr j _ (Array.getElem?_eq_getElem EV)⟩
 have hrg:(gT (m*sz))[i*sz+j]?=some (i*sz+j):=by rw[Array.getElem?_range,if_pos bc]
 simp only[madeCells,bG,Array.getElem?_map,hrg,Option.map_some,hs,Jal]
 simp[EV]
theorem Z3l{u:Value}(h:Cc u.cells.toList=some z)(hp:z.all D.plain=true)(c:Ctx)(w:World):∀j v,u.cells[j]?=some v->gh c.I w (z.getD j .dead) v:=by
 intro j v hv
 have hr:=KG h c w
 have hl:=hr.length
 have h1:u.cells.toList[j]?=some v:=by simpa using hv
 have bc:j<z.length:=by rw[hl];exact(List.getElem?_eq_some_iff.1 h1).1
 refine dc.plain ?_ ((Fa.1 hr).2 j v h1)
 have hm:z.getD j .dead∈z:=by
  simp only[aV,aI bc,aR]
  exact fG _
 exact List.all_eq_true.1 hp _ hm
theorem Wy{c:Ctx}{k:Nat}{e:TypeId}(h1:es.l.length<=cap)(h2:cap<=maxLen)(h3:cap*sz=arr.size):
 Rep (c.add k ⟨false,e,sz,es⟩ w.heap.size) (w.alloc (.cells arr e)) (.all k) (.slice (some ⟨w.heap.size,0,none⟩) es.l.length cap):=by
 refine⟨_,(Ctx.jr _ _ _ _).1,rfl,.inr ⟨by simp[Ctx.add],cap,arr,?_,h1,h2,?_,h3⟩⟩
 ·rw[(Ctx.jr _ _ _ _).2]
 ·rw[(Ctx.jr _ _ _ _).2];exact WL w _
theorem zw(hT:jC P T){kl kc:IntKind}{n m:Int}(h:wE T t n m R K):
 ∃row val,K val (R++[some row])/\∀c w,Sw P (Instr.makeSlice t (.int kl n) (.int kc m)) w c R.length row val:=by
 unfold wE at h
 split at h
 ·rename_i e _ _ _ _ _ _ ht
  have hk:=nj hT ht
  simp only at hk
  split at h
  ·rename_i kk sz me cs z q he
   simp only[de,aE,decide_eq_true_eq,LH]at h
   obtain⟨⟨⟨⟨h0,hz⟩,hp⟩,g0,g1,g2,g3⟩,h⟩:=h
   have h0:0<sz:=lE h0
   have hz:=bE hz
   obtain⟨i,u,hi,hu,AK,hs,hb,hc,hzero⟩:=Ie hT he
   refine⟨_,_,h,λc w=>?_⟩
   have hr:=run_make (P:=P) w t e i u hk.1 hi hu kl kc n m g0 g1 (by rw[hb];omega) g2
   rw[hs]at hr
   have uA:u.cells.size=sz:=by have:=Nx AK;simp at this;omega
   refine⟨_,_,hr,⟨h0,?_⟩,λ_ _=>?_⟩
   ·simp only[aA,if_false,ag.wF]
    exact Z4 (n:=n.toNat) (m:=m.toNat) hz uA (Z3l AK hp c w) (by omega)
   ·have:=Wy (c:=c) (w:=w) (k:=R.length) (e:=e) (sz:=sz) (cap:=m.toNat) (es:=ag.Gz e n.toNat z) (arr:=madeCells u.cells (m.toNat*sz)) (by rw[ag.wF];simp;omega) (by unfold maxLen;omega) (by simp[madeCells])
    rw[ag.wF]at this
    simpa using this
  ·exact h.elim
 ·exact h.elim
theorem yw{c:Ctx}{d:D}(h:dc c w d v):dc c w d.SL v:=by
 cases d with
 |sl sz es fr=>
  obtain⟨a,cap,hv,hc,h⟩:=h
  refine⟨a,cap,hv,hc,?_⟩
  rcases h with h|⟨b,off,arr,ty,fz,h1,h2,h3,h4⟩
  ·exact .inl h
  ·exact .inr ⟨b,off,arr,ty,fz,h1,h2,(λe=>by cases e),h4⟩
 |_=>exact h
theorem Zh9{c:Ctx}{w:World}:∀{ds:List D} {vs:List Value},jG c w ds vs->jG c w (Iz ds) vs
 |[],[],_=>trivial
 |d::ds,v::vs,h=>⟨yw h.1,Zh9 h.2⟩
 |[],_::_,h=>h.elim
 |_::_,[],h=>h.elim
theorem Za4{n len:Nat}(h0:0<n){ev:Operand->D}:∀{parts:List (Nat×Operand)} {es:List (List D)} {K:List (List D)->Prop},es.length=len->GA n len ev parts es K->
 ∃ jl,K jl/\jl.length=len/\∀c w (ρ:Operand->Value) (cells:Array Value),cells.size=len*n->im c.I w es cells 0 n->(∀p∈parts,Rep c w (ev p.2) (ρ p.2))->
  ∃dr,Instr.fill (λi=>some (i*n,n)) cells (parts.map λp=>(p.1,ρ p.2))=some dr/\dr.size=len*n/\im c.I w jl dr 0 n
 |[],es,K,hl,h=>⟨es,h,hl,λc w ρ cells hs he _=>⟨cells,rfl,hs,he⟩⟩
 |(i,x)::ps,es,K,hl,h=>by
  unfold GA at h
  simp only[de,aE]at h
  obtain⟨⟨⟨⟨hv,hp⟩,hn⟩,hi⟩,h⟩:=h
  have hn:=bE hn
  have hi:i<len:=lE hi
  obtain⟨jl,hK,rr,hr⟩:=Za4 h0 (by simpa using hl) h
  refine⟨jl,hK,rr,λc w ρ cells hs he lL=>?_⟩
  have hx:=Zh9 (Rep.cells hv (lL (i,x) (by simp)))
  have hlen:(ρ x).cells.size=n:=by rw[<-hn,hx.length];simp
  have lq:i*n+n<=cells.size:=by
   have:=bD n (show i+1<=len by omega)
   rw[bF]at this
   omega
  have hw:=Z6a (c:=c) (w:=w) (es:=es) (arr:=cells.toList) (off:=0) (i:=i) (by simpa using he) (by omega) (by omega) hx hp (by simpa using lq)
  have SM:lK (es.getD i []) 0 (Iz (ev x).cells)=Iz (ev x).cells:=by
   have Hc:=(Q4.1 he i (by omega)).1
   apply gQ
   intro k
   rw[Iv (by omega)]
   by_cases hk:k<(Iz (ev x).cells).length
   ·rw[if_pos (by omega)];simp
   ·rw[if_neg (by omega),aJ (by omega),aJ (by omega)]
  rw[SM]at hw
  have kP:(Q5 cells.toList (i*n+0) (ρ x).cells.toList).toArray=(ρ x).cells.zipIdx.foldl (λcs (x:Value×Nat)=>cs.setIfInBounds (i*n+x.2) x.1) cells:=by
   rw[aB,<-Zob (ρ x) (i*n) cells]
  rw[kP]at hw
  obtain⟨dr,k1,k2,k3⟩:=hr c w ρ _ (by rw[<-kP];simp[W7,hs]) hw (λp hp=>lL p (by simp[hp]))
  refine⟨dr,?_,k2,k3⟩
  simp only[fX,Instr.fill]
  rw[if_neg (by simp;omega)]
  exact k1
theorem Zin{n len:Nat}{ev:Operand->D}:∀{parts:List (Nat×Operand)} {es:List (List D)} {K:List (List D)->Prop},GA n len ev parts es K->
 ∃jl,K jl/\∀(ic:Operand->D) (K2:List (List D)->Prop),(∀p∈parts,ic p.2=ev p.2)->K2 jl->GA n len ic parts es K2
 |[],es,K,h=>⟨es,h,λic K2 _ h2=>h2⟩
 |(i,x)::ps,es,K,h=>by
  unfold GA at h
  simp only[de]at h
  obtain⟨jl,h1,h2⟩:=Zin h.2
  refine⟨jl,h1,λic K2 he hk=>?_⟩
  unfold GA
  rw[he (i,x) (by simp)]
  simp only[de]
  exact⟨h.1,h2 ic K2 (λp hp=>he p (by simp[hp])) hk⟩
theorem Zsp{parts:List (Nat×Operand)}(h:NN T t len parts ev R K):
 ∃val,K val R/\∀(ic:Operand->D) (R2:Rows),(∀p∈parts,ic p.2=ev p.2)->NN T t len parts ic R2 λd R'=>d=val/\R'=R2:=by
 unfold NN at h⊢
 split at h
 ·split at h
  ·simp only[de]at h⊢
   obtain⟨h0,h⟩:=h
   obtain⟨jl,hK,hd⟩:=Zin h
   cases len with
   |zero=>exact⟨_,hK,λic R2 ez=>⟨h0,hd ic _ ez (by simp)⟩⟩
   |succ m=>exact⟨_,hK,λic R2 ez=>⟨h0,hd ic _ ez (by simp)⟩⟩
  ·exact h.elim
 ·exact h.elim
theorem Zz4(hT:jC P T){parts:List (Nat×Operand)}(h:NN T t len parts ev R K):
    ∃val,K val R/\ ∀c w (ρ:Operand->Value),c.base<=w.heap.size->(∀p∈parts,Rep c w (ev p.2) (ρ p.2))-> ∃u arr ty,(Instr.buildSlice t len (parts.map λp=>(p.1,ρ p.2)).toArray).run P w= .ok u (w.alloc (.cells arr ty))/\(Mem c w->Rep (c.fk w.heap.size) (w.alloc (.cells arr ty)) val u):=by
  unfold NN at h
  split at h
  . rename_i e _ _ _ _ _ _ ht
    have hk:=nj hT ht
    simp only at hk
    split at h
    . rename_i kk sz me cs z q he
      simp only[de,aE]at h
      obtain⟨⟨⟨⟨h0,hz⟩,hle⟩,hp⟩,h⟩:=h
      have h0:0<sz:=lE h0
      have hz:=bE hz
      have hle:=lE hle
      obtain⟨i,u,hi,hu,AK,hs,hb,hc,hzero⟩:=Ie hT he
      obtain⟨jl,hK,rr,hr⟩:=Za4 h0 (by simp) h
      have uA:u.cells.size=sz:=by have:=Nx AK;simp at this;omega
      have main: ∀c w (ρ:Operand->Value),(∀p∈parts,Rep c w (ev p.2) (ρ p.2))-> ∃dr,(Instr.buildSlice t len (parts.map λp=>(p.1,ρ p.2)).toArray).run P w= .ok (.slice (some ⟨w.heap.size,0,none⟩) len len) (w.alloc (.cells dr e))/\im c.I w jl dr 0 sz:=by
        intro c w ρ lL
        have Hc:=Z4 (I:=c.I) (w:=w) hz uA (Z3l AK hp c w) (aX len)
        obtain⟨dr,k1,k2,k3⟩:=hr c w ρ (madeCells u.cells (len*sz)) (by simp [madeCells]) Hc lL
        refine⟨dr,?_,k3⟩
        have KH: ¬len*sz>2^24:=by omega
        have CK:0<P.cellsOf e:=by omega
        unfold Instr.buildSlice
        simp only[Sem.run_bind,run_underlying hk.1,Result.andThen_ok,Bs CK,hc,Sem.run_ite,KH,if_false,Sem.run_pure]
        by_cases EY:len*sz=0
        . have nL:Instr.fill (λi=>some (i*sz,sz)) ((gT (len*sz)).map λx=>(#[]:Array Value)[x%(#[]:Array Value).size]!) (parts.map λp=>(p.1,ρ p.2))=some dr:=by
            rw[<-k1];congr 1
            rw[EY];simp [madeCells]
          simp only[EY,if_true]at nL⊢
          rw[nL]
          simp only[newRow,Sem.run_bind,run_newObj,Result.andThen_ok,Sem.run_pure]
          rfl
        . simp only[EY,if_false,hzero,Result.andThen_ok]
          rw[show Instr.fill (λi=>some (i*sz,sz)) ((gT (len*sz)).map λx=>u.cells[x%u.cells.size]!) (parts.map λp=>(p.1,ρ p.2))=some dr from k1]
          simp only[newRow,Sem.run_bind,run_newObj,Result.andThen_ok,Sem.run_pure]
          rfl
      cases len with
      | zero=>
        refine⟨_,hK,λc w ρ _ lL=> ?_⟩
        obtain⟨dr,h1,_⟩:=main c w ρ lL
        exact⟨_,dr,e,h1,λ_=>⟨_,rfl,λx hx=>by cases hx;exact Nat.lt_of_lt_of_le (Nat.lt_succ_self _) (Nat.le_max_right _ _)⟩⟩
      | succ m=>
        refine⟨_,hK,λc w ρ jD lL=> ?_⟩
        obtain⟨dr,h1,h2⟩:=main c w ρ lL
        refine⟨_,dr,e,h1,λhm=> ?_⟩
        refine⟨some ⟨w.heap.size,0,none⟩,m+1,by rw[ag.rQ,rr],by rw[ag.rQ,rr];exact aX _, .inr ⟨w.heap.size,0,dr,e,(0,0),rfl, .inr rfl,λ_=>jD,WL w _,?_⟩⟩
        rw[ag.rQ]
        exact ob (WT hm _).I _ _ _ _ h2
    . exact h.elim
  . exact h.elim
theorem Zrv(hT:jC P T){parts:List (Nat×Operand)}(h:Z5l T t len parts ev R K):
    ∃row val,K val (R++[some row])/\ ∀c w (ρ:Operand->Value),(∀p∈parts,Rep c w (ev p.2) (ρ p.2))->Sw P (Instr.buildSlice t len (parts.map λp=>(p.1,ρ p.2)).toArray) w c R.length row val:=by
  unfold Z5l at h
  split at h
  . rename_i e _ _ _ _ _ _ ht
    have hk:=nj hT ht
    simp only at hk
    split at h
    . rename_i kk sz me cs z q he
      simp only[de,aE]at h
      obtain⟨⟨⟨⟨h0,hz⟩,hle⟩,hp⟩,h⟩:=h
      have h0:0<sz:=lE h0
      have hz:=bE hz
      have hle:=lE hle
      obtain⟨i,u,hi,hu,AK,hs,hb,hc,hzero⟩:=Ie hT he
      obtain⟨jl,hK,rr,hr⟩:=Za4 h0 (by simp) h
      rw[LH]at hK
      have uA:u.cells.size=sz:=by have:=Nx AK;simp at this;omega
      have main: ∀c w (ρ:Operand->Value),(∀p∈parts,Rep c w (ev p.2) (ρ p.2))-> ∃dr,(Instr.buildSlice t len (parts.map λp=>(p.1,ρ p.2)).toArray).run P w= .ok (.slice (some ⟨w.heap.size,0,none⟩) len len) (w.alloc (.cells dr e))/\im c.I w jl dr 0 sz/\dr.size=len*sz:=by
        intro c w ρ lL
        have Hc:=Z4 (I:=c.I) (w:=w) hz uA (Z3l AK hp c w) (aX len)
        obtain⟨dr,k1,k2,k3⟩:=hr c w ρ (madeCells u.cells (len*sz)) (by simp [madeCells]) Hc lL
        refine⟨dr,?_,k3,k2⟩
        have KH: ¬len*sz>2^24:=by omega
        have CK:0<P.cellsOf e:=by omega
        unfold Instr.buildSlice
        simp only[Sem.run_bind,run_underlying hk.1,Result.andThen_ok,Bs CK,hc,Sem.run_ite,KH,if_false,Sem.run_pure]
        by_cases EY:len*sz=0
        . have nL:Instr.fill (λi=>some (i*sz,sz)) ((gT (len*sz)).map λx=>(#[]:Array Value)[x%(#[]:Array Value).size]!) (parts.map λp=>(p.1,ρ p.2))=some dr:=by
            rw[<-k1];congr 1
            rw[EY];simp [madeCells]
          simp only[EY,if_true]at nL⊢
          rw[nL]
          simp only[newRow,Sem.run_bind,run_newObj,Result.andThen_ok,Sem.run_pure]
          rfl
        . simp only[EY,if_false,hzero,Result.andThen_ok]
          rw[show Instr.fill (λi=>some (i*sz,sz)) ((gT (len*sz)).map λx=>u.cells[x%u.cells.size]!) (parts.map λp=>(p.1,ρ p.2))=some dr from k1]
          simp only[newRow,Sem.run_bind,run_newObj,Result.andThen_ok,Sem.run_pure]
          rfl
      refine⟨_,_,hK,λc w ρ lL=> ?_⟩
      obtain⟨dr,h1,h2,h3⟩:=main c w ρ lL
      refine⟨_,dr,h1,⟨h0,?_⟩,λ_ _=> ?_⟩
      . simp only[aA,if_false,ag.rQ];exact h2
      . have:=Wy (c:=c) (w:=w) (k:=R.length) (e:=e) (sz:=sz) (cap:=len) (es:=ag.SN e jl) (arr:=dr) (by rw[ag.rQ,rr];exact aX _) (by
          have:len*1<=len*sz:=Nat.mul_le_mul_left len h0
          unfold maxLen;omega) h3.symm
        rw[ag.rQ,rr]at this
        exact this
    . exact h.elim
  . exact h.elim

