import Derived.Test.YtaemmjbkndlkeaaGreatMigrateOneFm
import Derived.Lib.Strings
open Bool renaming eq_iff_iff->eB,false_eq_true->aA,and_true->gA
open Option renaming map_eq_some_iff->fF,getD_some->aR
open Nat renaming add_assoc->fP,succ_mul->bF,le_refl->aX,sub_zero->fT,sub_self->fU,zero_add->bG,mul_le_mul_right->bD,add_zero->aB,zero_mul->fZ
open List renaming length_nil->dE,map_cons->fG,length_cons->dD,getElem?_cons_zero->fV,getElem?_set_self->fW,getElem?_set_ne->fX,getD->aV,getElem?_toArray->bH,getElem?_eq_getElem->aI,getElem_mem->eT,ext_getElem?->fY,append_assoc->aM,getElem?_append_right->bJ,getElem?_append_left->bI,getElem?_eq_none->aJ,cons_append->cH,replicate->cO
open Array renaming toArray_toList->bW,range->gB
set_option linter.all false
namespace Go.GD
open Go
theorem Zkf(a b:List UInt8):(ByteArray.mk a.toArray)++(ByteArray.mk b.toArray)=ByteArray.mk (a++b).toArray:=by
 rw[ByteArray.ext_iff]
 simp
theorem Rep.int{c:Ctx}{w:World}{k:IntKind}{n:Int}{v:Value}:Rep c w (.int k n) v↔v=.int k n:=Iff.rfl
theorem Rep.bool{c:Ctx}{w:World}{b:Bool}{v:Value}:Rep c w (.bool b) v↔v=.bool b:=Iff.rfl
theorem Rep.str{c:Ctx}{w:World}{s:List UInt8}{v:Value}:Rep c w (.str s) v↔v=.string ⟨s.toArray⟩:=Iff.rfl
theorem Yv{P:Program}{op:BinOp}{t:TypeId}{x y:Operand}{k k':IntKind}{a b:Int}(w:World):(eqGuard op t x y (.int k a) (.int k' b)).run P w=.ok () w:=by
 cases op<;>rfl
theorem Zmz{P:Program}{op:BinOp}{t:TypeId}{x y:Operand}{a b:ByteArray}(w:World):(eqGuard op t x y (.string a) (.string b)).run P w=.ok () w:=by
 cases op<;>rfl
theorem Z20{P:Program}{op:BinOp}{t:TypeId}{x y:Operand}{a b:Bool}(w:World):(eqGuard op t x y (.bool a) (.bool b)).run P w=.ok () w:=by
 cases op<;>rfl
theorem xar{P:Program}{op:BinOp}{t:TypeId}{k:IntKind}{a b:Int}{K:D->Prop}(rk:op≠.shl/\op≠.shr)(h:Ul op k a b K):
 ∃d,K d/\∀w,∃u,(binOp op t (.int k a) (.int k b)).run P w=.ok u w/\∀c,Rep c w d u:=by
 cases op<;>simp only[Ul,de,decide_eq_true_eq]at h
 case add=>exact⟨_,h,λw=>⟨_,by simp only[binOp,ne_eq,not_true_eq_false,if_false,Op.intArith,Sem.run_pure];try rfl,λc=>rfl⟩⟩
 case sub=>exact⟨_,h,λw=>⟨_,by simp only[binOp,ne_eq,not_true_eq_false,if_false,Op.intArith,Sem.run_pure];try rfl,λc=>rfl⟩⟩
 case mul=>exact⟨_,h,λw=>⟨_,by simp only[binOp,ne_eq,not_true_eq_false,if_false,Op.intArith,Sem.run_pure];try rfl,λc=>rfl⟩⟩
 case quo=>exact⟨_,h.2,λw=>⟨_,by simp only[binOp,ne_eq,not_true_eq_false,if_false,Op.intDiv,h.1,Sem.run_pure];try rfl,λc=>rfl⟩⟩
 case rem=>exact⟨_,h.2,λw=>⟨_,by simp only[binOp,ne_eq,not_true_eq_false,if_false,Op.intDiv,h.1,Sem.run_pure];try rfl,λc=>rfl⟩⟩
 case and=>exact⟨_,h,λw=>⟨_,by simp only[binOp,ne_eq,not_true_eq_false,if_false,Op.intBits,Sem.run_pure];try rfl,λc=>rfl⟩⟩
 case or=>exact⟨_,h,λw=>⟨_,by simp only[binOp,ne_eq,not_true_eq_false,if_false,Op.intBits,Sem.run_pure];try rfl,λc=>rfl⟩⟩
 case xor=>exact⟨_,h,λw=>⟨_,by simp only[binOp,ne_eq,not_true_eq_false,if_false,Op.intBits,Sem.run_pure];try rfl,λc=>rfl⟩⟩
 case andNot=>exact⟨_,h,λw=>⟨_,by simp only[binOp,ne_eq,not_true_eq_false,if_false,Op.intBits,Sem.run_pure];try rfl,λc=>rfl⟩⟩
 case eql=>exact⟨_,h,λw=>⟨_,by simp only[binOp,ne_eq,not_true_eq_false,if_false,Op.intCmp,Sem.run_pure];try rfl,λc=>rfl⟩⟩
 case neq=>exact⟨_,h,λw=>⟨_,by simp only[binOp,ne_eq,not_true_eq_false,if_false,Op.intCmp,Sem.run_pure];try rfl,λc=>rfl⟩⟩
 case lss=>exact⟨_,h,λw=>⟨_,by simp only[binOp,ne_eq,not_true_eq_false,if_false,Op.intCmp,Sem.run_pure];try rfl,λc=>rfl⟩⟩
 case leq=>exact⟨_,h,λw=>⟨_,by simp only[binOp,ne_eq,not_true_eq_false,if_false,Op.intCmp,Sem.run_pure];try rfl,λc=>rfl⟩⟩
 case gtr=>exact⟨_,h,λw=>⟨_,by simp only[binOp,ne_eq,not_true_eq_false,if_false,Op.intCmp,Sem.run_pure];try rfl,λc=>rfl⟩⟩
 case geq=>exact⟨_,h,λw=>⟨_,by simp only[binOp,ne_eq,not_true_eq_false,if_false,Op.intCmp,Sem.run_pure];try rfl,λc=>rfl⟩⟩
theorem Zjk{P:Program}{t:TypeId}{k k':IntKind}{a b:Int}(hb:0<=b)(w:World):
 (binOp .shl t (.int k a) (.int k' b)).run P w=.ok (.int k (eu k a b)) w/\(binOp .shr t (.int k a) (.int k' b)).run P w=.ok (.int k (bc k a b)) w:=by
 have:¬b<0:=by omega
 constructor<;>(simp only[binOp];simp[Op.shift,this,eu,bc])
theorem qas{P:Program}{op:BinOp}{t:TypeId}{a b:List UInt8}{K:D->Prop}
 (h:match op with
  |.add=>cu (decide (a.length+b.length<=maxLen)) (K (.str (a++b)))
  |.eql=>K (.bool (decide (a=b)))
  |.neq=>K (.bool (!decide (a=b)))
  |_=>False):
 ∃d,K d/\∀w,∃u,(binOp op t (.string ⟨a.toArray⟩) (.string ⟨b.toArray⟩)).run P w=.ok u w/\∀c,Rep c w d u:=by
 cases op<;>simp only[de,decide_eq_true_eq]at h
 case add=>
  refine⟨_,h.2,λw=>⟨_,?_,λc=>rfl⟩⟩
  have hl:¬(((a.toArray.size+b.toArray.size:Nat):Int)>IntKind.i64.max):=by
   have:=h.1
   unfold maxLen at this
   simp only[List.size_toArray,IntKind.max,IntKind.signed,IntKind.bits,if_true]
   omega
  simp only[binOp]
  simp only[Op.stringOp,ByteArray.size,hl,if_false,Sem.run_pure,Zkf]
 case eql=>
  refine⟨_,h,λw=>⟨_,?_,λc=>rfl⟩⟩
  simp only[binOp]
  simp only[Op.stringOp,Sem.run_pure,ByteArray.toList_mk,show(a==b)=decide (a=b) from by rw[eB];simp]
  try rfl
 case neq=>
  refine⟨_,h,λw=>⟨_,?_,λc=>rfl⟩⟩
  simp only[binOp]
  simp only[Op.stringOp,Sem.run_pure,ByteArray.toList_mk,show(a==b)=decide (a=b) from by rw[eB];simp]
  try rfl
def FJ(P:Program)(x:Sem Value)(w:World)(c:Ctx)(d:D):Prop:=∃u,x.run P w=.ok u w/\Rep c w d u
theorem mm{P:Program}{T:e7}(hT:jb P T){t:TypeId}{k:TK}{a b:Nat}{cs:List pO}{z:Option (List D)}{e:Bool}(h:T.get t=some ⟨k,a,b,cs,z,e⟩):
 match k with
 |.int j=>P.underlying t=some (.int j)
 |.bool=>P.underlying t=some .bool
 |.string=>P.underlying t=some .string
 |.slice u n=>P.underlying t=some (.slice u)/\P.cellsOf u=n
 |.struct fs=>∃gs,P.underlying t=some (.struct gs)/\fs=gs.toList.map λf=>(f.offset,f.type,P.cellsOf f.type)
 |.array m u n=>P.underlying t=some (.array m u)/\P.cellsOf u=n
 |.other=>True:=by
 obtain⟨i,hi,hs,hb,hl,hk,_⟩:=De (hT.get h)
 simp only at hk
 unfold Z1 at hk
 split at hk<;>(subst hk;simp_all)
theorem zas{P:Program}{T:e7}(hT:jb P T){s d:TypeId}{x:D}{K:D->Prop}(h:LU T s d x K):
 ∃val,K val/\∀c w v,Rep c w x v->FJ P (convert s d v) w c val:=by
 unfold LU at h
 split at h
 ·rename_i k1 _ _ _ _ _ k2 _ _ _ _ _ hs hd
  have h1:=mm hT hs
  have h2:=mm hT hd
  simp only at h1 h2
  cases x<;>simp only at h
  exact⟨_,h,λc w v hv=>⟨_,by rw[Rep.int.1 hv];simp only[convert,Sem.run_bind,run_underlying h1,run_underlying h2,Result.andThen_ok,Conv.intToInt,Sem.run_pure],rfl⟩⟩
 ·rename_i hs hd
  have h1:=mm hT hs
  have h2:=mm hT hd
  simp only at h1 h2
  cases x<;>simp only at h
  exact⟨_,h,λc w v hv=>⟨_,by rw[Rep.str.1 hv];simp only[convert,Sem.run_bind,run_underlying h1,run_underlying h2,Result.andThen_ok,Sem.run_pure],rfl⟩⟩
 ·exact h.elim
theorem Z1p{P:Program}{T:e7}(hT:jb P T){s:TypeId}{f o:Nat}{q:TypeId×Nat}(h:PC T s f=some (o,q)):
 ∃fs fd,P.underlying s=some (.struct fs)/\fs[f]?=some fd/\fd.offset=o/\fd.type=q.1/\P.cellsOf fd.type=q.2:=by
 unfold PC at h
 split at h
 ·rename_i fs _ _ _ _ _ ht
  obtain⟨i,hi,hs,hb,hl,hk,_⟩:=De (hT.get ht)
  simp only at hk
  unfold Z1 at hk
  split at hk<;>try(cases hk;done)
  rename_i gs hd
  simp only[TK.struct.injEq]at hk
  subst hk
  simp only[List.getElem?_map,fF,Prod.mk.injEq,Array.getElem?_toList]at h
  obtain⟨fd,h1,h2,h3⟩:=h
  exact⟨gs,fd,hd,h1,h2,by rw[<-h3],by rw[<-h3]⟩
 ·cases h
theorem Zdy{P:Program}{t:TypeId}(h:0<P.cellsOf t):∃i,P.info? t=some i:=by
 unfold Program.cellsOf at h
 cases hi:P.info? t with
 |none=>simp[hi]at h
 |some i=>exact⟨i,rfl⟩
theorem Ai{P:Program}{t:TypeId}(h:0<P.cellsOf t)(w:World):(sizeOf t).run P w=.ok (P.cellsOf t) w:=by
 obtain⟨i,hi⟩:=Zdy h
 exact run_sizeOf w hi
theorem Z6a{P:Program}{s:TypeId}{fs:Array Field}{f:Nat}{fd:Field}(hs:P.underlying s=some (.struct fs))(hf:fs[f]?=some fd)(h0:0<P.cellsOf fd.type)(b o:Nat)(w:World):
 (Instr.fieldAt s (.pointer (some ⟨b,o,none⟩)) f).run P w=.ok (.pointer (some ⟨b,o+fd.offset,none⟩)) w:=by
 have h1:¬P.cellsOf fd.type=0:=by omega
 simp only[Instr.fieldAt,Sem.run_bind,run_underlying hs,Result.andThen_ok,hf,Instr.sureAddr,Sem.run_pure,fieldPlace,Ai h0,Sem.run_ite,h1,if_false,EH]
theorem Zqw{P:Program}{T:e7}(hT:jb P T){t:TypeId}{x:D}{Um:Bool}{n:Int}{k:IntKind}{R:Rows}{K:D->Rows->Prop}(h:Un T t x Um n R K):
 ∃val,K val R/\∀c w v,Mem c w->lR c R->Rep c w x v->FJ P (Instr.indexAt t v (.int k n)) w c val:=by
 unfold Un at h
 split at h
 ·rename_i e iC _ _ _ _ _ ht
  have hk:=mm hT ht
  simp only at hk
  obtain⟨hu,fq⟩:=hk
  have YD:∀(b o len cap:Nat) (w:World),0<iC->0<=n->n<len->(Instr.indexAt t (.slice (some ⟨b,o,none⟩) len cap) (.int k n)).run P w=.ok (.pointer (some ⟨b,o+n.toNat*iC,none⟩)) w:=by
   intro b o len cap w h0 h1 h2
   simp only[Instr.indexAt,asIntOf,Sem.run_bind,Sem.run_pure,Result.andThen_ok,run_underlying hu,Sem.run_ite,h1,h2,and_self,if_true,Ai (fq▸h0),fq,EH]
  cases x<;>simp only[de,aE,decide_eq_true_eq,<-ah.ir]at h
  case sl sz es fr=>
   obtain⟨⟨⟨h1,h0⟩,h2,h3⟩,h⟩:=h
   have h1:=bE h1
   have h0:0<iC:=lE h0
   subst h1
   refine⟨_,h,λc w v hm hA hv=>?_⟩
   obtain⟨a,cap,hv,hc,gx⟩:=hv
   rcases gx with gx|⟨b,off,arr,ty,fz,ha,hI,hf,hh,hE⟩
   ·rw[gx]at h3;simp at h3;omega
   ·subst ha;subst hv
    refine⟨_,YD b off _ _ w h0 h2 h3,b,off,arr,ty,fz,by simp,hI,by omega,hh,hE⟩
  case all r=>
   split at h
   ·rename_i box ty sz es hR
    obtain⟨⟨⟨h1,h0⟩,h2,h3⟩,h⟩:=h
    have h1:=bE h1
    have h0:0<iC:=lE h0
    subst h1
    refine⟨_,h,λc w v hm hA hv=>?_⟩
    obtain⟨row,g1,g2,hv⟩:=hv
    have:=hA r row _ g1 hR
    subst this
    rcases hv with⟨hV,a,hv,_⟩|⟨hV,cap,arr,hv,g3,g4,g5,g6⟩
    ·have:=(hm.nf g1 hV).2.1
     simp only at this
     rw[this]at h3
     simp at h3;omega
    ·subst hv
     exact⟨_,YD _ 0 _ _ w h0 h2 h3,_,g1,hV,by simp only;omega,by simp⟩
   ·exact h.elim
  case own r o m=>
   split at h
   ·rename_i box ty sz es hR
    obtain⟨⟨⟨h1,h0⟩,h2,h3⟩,h⟩:=h
    have h1:=bE h1
    have h0:0<iC:=lE h0
    subst h1
    refine⟨_,h,λc w v hm hA hv=>?_⟩
    obtain⟨row,g1,g2,g5,hv⟩:=hv
    have:=hA r row _ g1 hR
    subst this
    simp only at*
    rcases hv with⟨g7,_⟩|⟨hV,cap,arr,g3,g4,g6,hv,g7⟩
    ·omega
    ·subst hv
     exact⟨_,YD _ _ _ _ w h0 h2 h3,_,g1,hV,by simp only;omega,by simp[Nat.add_mul]⟩
   ·exact h.elim
 ·rename_i len e iC _ _ _ _ _ ht
  have hk:=mm hT ht
  simp only at hk
  obtain⟨hu,fq⟩:=hk
  simp only[de,aE,decide_eq_true_eq]at h
  obtain⟨⟨h0,h2,h3⟩,h⟩:=h
  have h0:0<iC:=lE h0
  have Cz:∀(b o:Nat) (w:World),(Instr.indexAt t (.pointer (some ⟨b,o,none⟩)) (.int k n)).run P w=.ok (.pointer (some ⟨b,o+n.toNat*iC,none⟩)) w:=by
   intro b o w
   simp only[Instr.indexAt,asIntOf,Sem.run_bind,Sem.run_pure,Result.andThen_ok,run_underlying hu,Instr.sureAddr,Sem.run_ite,h2,h3,and_self,if_true,Ai (fq▸h0),fq,EH]
  cases x<;>simp only at h
  case ptr r i off=>
   have wv:K (.ptr r i (off+n.toNat*iC)) R->∃val,K val R/\∀c w v,Mem c w->lR c R->Rep c w (.ptr r i off) v->FJ P (Instr.indexAt t v (.int k n)) w c val:=λh=>
    ⟨_,h,λc w v hm hA hv=>by
     obtain⟨row,g1,gV,g2,hv⟩:=hv
     subst hv
     exact⟨_,Cz _ _ w,row,g1,gV,g2,by simp[fP]⟩⟩
   have ng:∀kk,Nat.beq iC 1=true->K (.pa r i off len kk n.toNat) R->∃val,K val R/\∀c w v,Mem c w->lR c R->Rep c w (.ptr r i off) v->FJ P (Instr.indexAt t v (.int k n)) w c val:=λkk h1 h=>
    ⟨_,h,λc w v hm hA hv=>by
     obtain⟨row,g1,gV,g2,hv⟩:=hv
     have h1:=bE h1
     subst hv
     exact⟨_,Cz _ _ w,by omega,row,g1,gV,g2,by simp[fP,h1]⟩⟩
   cases Um with
   |true=>exact wv h
   |false=>
    simp only at h
    split at h
    ·exact ng _ h.1 h.2
    ·exact ng _ h.1 h.2
    ·exact wv h
  case im sz es i off=>
   refine⟨_,h,λc w v hm hA hv=>?_⟩
   obtain⟨b,o,arr,ty,fz,hv,hI,hi,hh,hE⟩:=hv
   subst hv
   exact⟨_,Cz _ _ w,b,o,arr,ty,fz,by simp[fP],hI,hi,hh,hE⟩
 ·exact h.elim
theorem v8{ev:Operand->D}{x:Option Operand}{n l:Int}{c:Ctx}{w:World}{ρ:Operand->Value}(h:rG x ev n=some l)(hr:∀y,x=some y->Rep c w (ev y) (ρ y)):
 (x=none/\l=n)\/∃y k,x=some y/\ρ y=.int k l:=by
 cases x with
 |none=>simp[rG]at h;exact .inl ⟨rfl,h.symm⟩
 |some y=>
  simp only[rG]at h
  cases hd:ev y<;>simp only[hd]at h<;>try(cases h;done)
  have:=hr y rfl
  rw[hd]at this
  simp only[Option.some.injEq]at h
  subst h
  exact .inr ⟨y,_,rfl,Rep.int.1 this⟩
theorem Zc3{P:Program}{b:Bool}{len cap:Nat}{lo hi:Option Operand}{ev:Operand->D}{l h:Int}{c:Ctx}{w:World}{ρ:Operand->Value}
 (hl:rG lo ev 0=some l) (hh:rG hi ev len=some h) (pY:∀y,lo=some y->Rep c w (ev y) (ρ y)) (Ak:∀y,hi=some y->Rep c w (ev y) (ρ y))
 (h0:0<=l) (h1:l<=h) (h2:h<=cap):(Instr.sliceBounds b len cap (lo.map ρ) (hi.map ρ) none).run P w=.ok (l.toNat,h.toNat,cap) w:=by
 have bound:∀(k:IntKind) (i:Int) (y:Nat) (code:BoundsCode),0<=i->i<=y->(Instr.sliceBound (.int k i) y code).run P w=.ok i.toNat w:=by
  intro k i y code a1 a2
  simp[Instr.sliceBound,asIntOf,a1,a2]
 rcases v8 hh Ak with⟨rfl,rfl⟩|⟨y,k,rfl,hy⟩<;>rcases v8 hl pY with⟨rfl,rfl⟩|⟨z,k',rfl,hz⟩
 ·simp[Instr.sliceBounds]
 ·simp[Instr.sliceBounds,hz,bound k' l len _ h0 h1]
 ·simp[Instr.sliceBounds,hy,bound k h cap _ (by omega) h2]
 ·simp[Instr.sliceBounds,hy,hz,bound k h cap _ (by omega) h2,bound k' l h.toNat _ h0 (by omega)]
theorem JP{I:ab}{w:World}:∀{es:List (List D)} {arr:Array Value} {off sz l:Nat},ij I w es arr off sz->ij I w (es.drop l) arr (off+l*sz) sz
 |es,arr,off,sz,0,h=>by simpa using h
 |[],arr,off,sz,l+1,h=>by simp[pQ,pB]
 |e::es,arr,off,sz,l+1,h=>by
  simp only[pQ,pB]at h
  have:=JP (l:=l) h.2.2
  rw[show off+(l+1)*sz=off+sz+l*sz by rw[bF];omega]
  simpa using this
theorem LC{I:ab}{w:World}:∀{es:List (List D)} {arr:Array Value} {off sz n:Nat},ij I w es arr off sz->ij I w (es.take n) arr off sz
 |es,arr,off,sz,0,h=>by simp[pQ,pB]
 |[],arr,off,sz,n+1,h=>by simp[pQ,pB]
 |e::es,arr,off,sz,n+1,h=>by
  simp only[pQ,pB]at h
  simp only[List.take_succ_cons,pQ,pB]
  exact⟨h.1,h.2.1,LC h.2.2⟩
theorem Zfw(s:List UInt8)(l h:Nat):(ByteArray.mk s.toArray).extract l h=⟨((s.drop l).take (h-l)).toArray⟩:=by
 rw[Lib.extract_eq]
theorem Zit:∀{e:List D} {off n:Nat},(ints e off n).length=n
 |_,_,0=>rfl
 |e,off,n+1=>by simp[ints,Zit]
theorem Zak{I:ab}{w:World}{k:IntKind}{e:List D}{arr:Array Value}{o:Nat}(h:oB I w e arr o):∀{n off:Nat},off+n<=e.length->Cr k e off n=true->ij I w (ah.ints k (ints e off n)).l arr (o+off) 1
 |0,_,_,_=>pQ.2 trivial
 |n+1,off,hl,ha=>by
  simp only[Cr,aE]at ha
  obtain⟨v,hv,hp⟩:=TX h (j:=off) (by omega)
  rw[D.jZ ha.1]at hp
  have r:=Zak h (n:=n) (off:=off+1) (by omega) ha.2
  rw[show o+(off+1)=o+off+1 by omega]at r
  exact pB.2 ⟨rfl,Dg.2 ⟨⟨v,hv,hp⟩,Df.2 trivial⟩,r⟩
theorem zT{P:Program}{T:e7}(hT:jb P T){t:TypeId}{x:D}{lo hi:Option Operand}{ev:Operand->D}{R:Rows}{K:D->Rows->Prop}(h:LV T t x lo hi ev R K):
 ∃ val,K val R/\∀c w v (ρ:Operand->Value),Mem c w->lR c R->Rep c w x v->(∀y,lo=some y->Rep c w (ev y) (ρ y))->(∀y,hi=some y->Rep c w (ev y) (ρ y))->
  FJ P (Instr.sliceAt t v (lo.map ρ) (hi.map ρ) none) w c val:=by
 unfold LV at h
 split at h
 ·rename_i ht
  have hu:=mm hT ht
  simp only at hu
  cases x<;>simp only at h
  case str s=>
   split at h
   ·rename_i l u hl hh
    try rw[<-ah.ir]at hh
    simp only[de,decide_eq_true_eq]at h
    obtain⟨⟨h0,h1,h2⟩,h⟩:=h
    refine⟨_,h,λc w v ρ hm hA hv pY Ak=>?_⟩
    rw[Rep.str.1 hv]
    refine⟨_,?_,rfl⟩
    have hb:=Zc3 (P:=P) (b:=false) (len:=s.length) (cap:=s.length) hl hh pY Ak h0 h1 h2
    have fq:(ByteArray.mk s.toArray).size=s.length:=by simp[ByteArray.size]
    simp only[Instr.sliceAt,Sem.run_bind,run_underlying hu,Result.andThen_ok,Instr.slice,Option.isSome_none,aA,if_false,fq,hb,Sem.run_pure,Zfw]
   ·exact h.elim
 ·rename_i e iC _ _ _ _ _ ht
  have hk:=mm hT ht
  simp only at hk
  obtain⟨hu,fq⟩:=hk
  have sl:∀(a:Option Addr) (len cap:Nat) (l u:Int) (c:Ctx) (w:World) (ρ:Operand->Value),0<iC->rG lo ev 0=some l->rG hi ev len=some u->(∀y,lo=some y->Rep c w (ev y) (ρ y))->(∀y,hi=some y->Rep c w (ev y) (ρ y))->
   0<=l->l<=u->u<=cap->(Instr.sliceAt t (.slice a len cap) (lo.map ρ) (hi.map ρ) none).run P w=.ok (.slice (if cap=l.toNat then a else a.map (·.add (l.toNat*iC))) (u.toNat-l.toNat) (cap-l.toNat)) w:=by
   intro a len cap l u c w ρ h0 hl hh pY Ak g0 g1 g2
   have hb:=Zc3 (P:=P) (b:=true) (len:=len) (cap:=cap) hl hh pY Ak g0 g1 g2
   simp only[Instr.sliceAt,Sem.run_bind,run_underlying hu,Result.andThen_ok,Instr.slice,hb,Ai (fq▸h0),fq,Sem.run_pure]
  cases x<;>simp only at h
  case sl sz es fr=>
   split at h
   ·rename_i l u hl hh
    try rw[<-ah.ir]at hh
    simp only[de,aE,decide_eq_true_eq,<-ah.ir]at h
    obtain⟨⟨⟨h1,h0⟩,g0,g1,g2⟩,h⟩:=h
    have h1:=bE h1
    have h0:0<iC:=lE h0
    subst h1
    refine⟨_,h,λc w v ρ hm hA hv pY Ak=>?_⟩
    obtain⟨a,cap,hv,hc,gx⟩:=hv
    subst hv
    refine⟨_,sl a _ cap l u c w ρ h0 hl hh pY Ak g0 g1 (by omega),?_⟩
    have hlen:((es.drop l.toNat).take (u.toNat-l.toNat)).l.length=u.toNat-l.toNat:=by rw[ah.iT,ah.j8];simp only[List.length_take,List.length_drop];omega
    refine⟨_,cap-l.toNat,by rw[hlen],by omega,?_⟩
    rw[ah.iT,ah.j8]
    by_cases hlu:l=u
    ·left
     subst hlu
     simp
    ·rcases gx with gx|⟨b,off,arr,ty,fz,ha,hI,hf,hh,hE⟩
     ·rw[gx]at g2;simp at g2;omega
     ·right
      subst ha
      refine⟨b,off+l.toNat*sz,arr,ty,fz,?_,hI,hf,hh,LC (JP hE)⟩
      rw[if_neg (by omega)]
      simp[EH]
   ·exact h.elim
  case all r=>
   split at h
   ·rename_i box ty sz es hR
    split at h
    ·rename_i l u hl hh
     try rw[<-ah.ir]at hh
     simp only[de,aE,decide_eq_true_eq,<-ah.ir]at h
     obtain⟨⟨⟨h1,h0⟩,g0,g1,g2⟩,h⟩:=h
     have h1:=bE h1
     have h0:0<iC:=lE h0
     subst h1
     refine⟨_,h,λc w v ρ hm hA hv pY Ak=>?_⟩
     obtain⟨row,k1,k2,hv⟩:=hv
     have:=hA r row _ k1 hR
     subst this
     rcases hv with⟨hV,a,hv,Cf⟩|⟨hV,cap,arr,hv,k3,k4,k5,k6⟩
     ·have he:=(hm.nf k1 hV).2.1
      simp only at he
      rw[he]at g2 hh
      simp at g2
      subst hv
      refine⟨_,sl a 0 0 l u c w ρ h0 hl hh pY Ak g0 g1 (by omega),_,k1,k2,by simp only[he,dE];omega,.inl ⟨by omega,a,?_,.inl Cf⟩⟩
      rw[if_pos (by omega)]
      simp;omega
     subst hv
     simp only at*
     refine⟨_,sl _ _ cap l u c w ρ h0 hl hh pY Ak g0 g1 (by omega),_,k1,k2,by simp only;omega,?_⟩
     by_cases jf:cap=l.toNat
     ·left
      exact⟨by omega,some ⟨c.ρ r,0,none⟩,by rw[if_pos jf,show u.toNat-l.toNat=0 by omega,show cap-l.toNat=0 by omega],.inr ⟨hV,λx hx=>by cases hx;rfl⟩⟩
     ·right
      refine⟨hV,cap-l.toNat,arr,by omega,by omega,k5,by rw[if_neg jf];simp[EH],?_⟩
      rw[<-k6];congr 1;omega
    ·exact h.elim
   ·exact h.elim
  case own r o m=>
   split at h
   ·rename_i box ty sz es hR
    split at h
    ·rename_i l u hl hh
     try rw[<-ah.ir]at hh
     simp only[de,aE,decide_eq_true_eq,<-ah.ir]at h
     obtain⟨⟨⟨h1,h0⟩,g0,g1,g2⟩,h⟩:=h
     have h1:=bE h1
     have h0:0<iC:=lE h0
     subst h1
     refine⟨_,h,λc w v ρ hm hA hv pY Ak=>?_⟩
     obtain⟨row,k1,k2,k5,hv⟩:=hv
     have:=hA r row _ k1 hR
     subst this
     simp only at*
     rcases hv with⟨k7,a,hv,Cf⟩|⟨hV,cap,arr,k3,k4,k6,hv,k7⟩
     ·subst hv
      subst k7
      refine⟨_,sl a 0 0 l u c w ρ h0 hl hh pY Ak g0 g1 (by omega),_,k1,k2,by simp only;omega,.inl ⟨by omega,a,?_,Cf⟩⟩
      rw[if_pos (by omega)]
      simp;omega
     ·subst hv
      refine⟨_,sl _ _ cap l u c w ρ h0 hl hh pY Ak g0 g1 (by omega),_,k1,k2,by simp only;omega,?_⟩
      by_cases jf:cap=l.toNat
      ·left
       exact⟨by omega,some ⟨c.ρ r,o*sz,none⟩,by rw[if_pos jf,show u.toNat-l.toNat=0 by omega,show cap-l.toNat=0 by omega],.inr ⟨hV,λx hx=>by cases hx;rfl⟩⟩
      ·right
       refine⟨hV,cap-l.toNat,arr,by omega,by omega,k6,by rw[if_neg jf];simp[EH,Nat.add_mul],?_⟩
       simp only
       rw[<-k7];congr 1;omega
    ·exact h.elim
   ·exact h.elim
 ·rename_i len e iC _ _ _ _ _ ht
  have hk:=mm hT ht
  simp only at hk
  obtain⟨hu,fq⟩:=hk
  cases x
  case im sz es i off=>
   split at h
   ·rename_i heq
    cases heq
    split at h
    ·rename_i k _ _ _ _ _ he
     simp only[de,aE]at h
     obtain⟨⟨h1,h2,h3⟩,h⟩:=h
     have h1:=bE h1
     have h2:=lE h2
     subst h1
     refine⟨_,h,λc w v ρ hm hA hv _ _=>?_⟩
     obtain⟨b,o,arr,ty,fz,hv,hI,hi,hh,hE⟩:=hv
     subst hv
     obtain⟨q1,q2⟩:=Qt hE hi
     rw[ah.mW es (by rw[<-ah.ir];exact hi)]at q1 q2
     have hlen:(ah.ints k (ints (es.get i) off len)).l.length=len:=by simp[ah.l,Zit]
     refine⟨.slice (some (if len=0 then⟨b,o+i*sz+off,none⟩else Addr.add ⟨b,o+i*sz+off,none⟩ (0*1))) len len,?_,⟨_,len,by rw[hlen],by rw[hlen];exact aX _,.inr ⟨b,o+i*sz+off,arr,ty,fz,?_,hI,(λhf=>by cases hf),hh,Zak q2 (by omega) h3⟩⟩⟩
     ·simp only[Instr.sliceAt,Instr.sureAddr,Instr.sliceBounds,Sem.run_bind,run_underlying hu,Result.andThen_ok,Sem.run_pure,Ai (fq▸Nat.zero_lt_one),fq,Option.map_none,fT]
     ·congr 1
      split
      ·rfl
      ·simp[EH]
    ·exact h.elim
   ·exact h.elim
  all_goals exact h.elim
 ·exact h.elim
theorem qaI{P:Program}{T:e7}(hT:jb P T){t t':TypeId}{x:D}{R:Rows}{K:D->Rows->Prop}(h:sF T t x R K):
 ∃val,K val R/\∀c w v,Mem c w->lR c R->Rep c w x v->FJ P (Builtin.len_ #[t] t' #[v]) w c val:=by
 unfold sF at h
 split at h
 ·rename_i ht
  have hu:=mm hT ht
  simp only at hu
  cases x<;>simp only at h
  rename_i s
  refine⟨_,h,λc w v hm hA hv=>⟨_,?_,rfl⟩⟩
  rw[Rep.str.1 hv]
  have fq:(ByteArray.mk s.toArray).size=s.length:=by simp[ByteArray.size]
  have h0:(#[t]:Array TypeId)[0]?=some t:=rfl
  have h1:(#[Value.string ⟨s.toArray⟩]:Array Value)[0]?=some (Value.string ⟨s.toArray⟩):=rfl
  unfold Builtin.len_
  simp only[h0,h1,Sem.run_bind,run_underlying hu,Result.andThen_ok,goInt,fq,Sem.run_pure]
 ·rename_i e iC _ _ _ _ _ ht
  have hk:=mm hT ht
  simp only at hk
  obtain⟨hu,fq⟩:=hk
  have ln:∀(a:Option Addr) (n cap:Nat) (w:World),(Builtin.len_ #[t] t' #[.slice a n cap]).run P w=.ok (.int .i64 n) w:=by
   intro a n cap w
   simp[Builtin.len_,run_underlying hu,goInt]
  cases x<;>simp only at h
  case c8=>exact⟨_,h,λc w v hm hA hv=>⟨_,by rw[show v=_ from hv];exact ln _ _ _ w,rfl⟩⟩
  case emp=>exact⟨_,h,λc w v hm hA hv=>by obtain⟨a,hv,_⟩:=hv;subst hv;exact⟨_,ln _ _ _ w,rfl⟩⟩
  case sl sz es fr=>
   refine⟨_,h,λc w v hm hA hv=>?_⟩
   obtain⟨a,cap,hv,_⟩:=hv
   subst hv
   exact⟨_,ln _ _ _ w,by rw[ah.ir];rfl⟩
  case all r=>
   split at h
   ·rename_i box ty sz es hR
    refine⟨_,h,λc w v hm hA hv=>?_⟩
    obtain⟨row,k1,k2,hv⟩:=hv
    have:=hA r row _ k1 hR
    subst this
    rcases hv with⟨hV,a,hv,_⟩|⟨hV,cap,arr,hv,k3,k4,k5,k6⟩
    ·have he:=(hm.nf k1 hV).2.1
     simp only at he
     subst hv
     refine⟨_,ln _ _ _ w,?_⟩
     rw[<-ah.ir,he];rfl
    ·subst hv
     exact⟨_,ln _ _ _ w,by simp only[ah.ir];rfl⟩
   ·exact h.elim
  case own r o m=>
   refine⟨_,h,λc w v hm hA hv=>?_⟩
   obtain⟨row,k1,k2,k5,hv⟩:=hv
   rcases hv with⟨h0,a,hv,_⟩|⟨hV,cap,arr,k3,k4,k6,hv,k7⟩
   ·subst hv;subst h0;exact⟨_,ln _ _ _ w,rfl⟩
   ·subst hv;exact⟨_,ln _ _ _ w,rfl⟩
 ·exact h.elim
theorem je.set{c:Ctx}{w:World}:∀{ds:List D} {vs:List Value} {d:D} {v:Value} (i:Nat),je c w ds vs->dd c w d v->je c w (ds.set i d) (vs.set i v)
 |[],[],_,_,_,h,_=>by simpa using h
 |[],_::_,_,_,_,h,_=>h.elim
 |_::_,[],_,_,_,h,_=>h.elim
 |a::ds,b::vs,d,v,0,h,hd=>⟨hd,h.2⟩
 |a::ds,b::vs,d,v,i+1,h,hd=>⟨h.1,je.set i h.2 hd⟩
theorem je.length{c:Ctx}{w:World}{ds:List D}{vs:List Value}(h:je c w ds vs):ds.length=vs.length:=(DH.1 h).1
theorem Rep.cells{c:Ctx}{w:World}{d:D}{v:Value}(hd:d.isVal=true)(h:Rep c w d v):je c w d.cells v.cells.toList:=by
 have one:∀d':D,dd c w d' v->je c w [d'] v.cells.toList:=λd' h'=>by
  have h1:=h'.one
  have:v.cells= #[v]:=by cases v<;>first|rfl|(simp[Value.oneCell']at h1)
  rw[this]
  exact⟨h',trivial⟩
 cases d with
 |agg cs=>
  obtain⟨vs,hv,hr⟩:=h
  subst hv
  simpa[Value.cells,D.cells]using hr
 |dw ds=>simp[D.isVal]at hd
 |dead=>simp[D.isVal]at hd
 |_=>exact one _ h
theorem PD:∀{xs:List D} {ds:List D} {off:Nat},(kJ ds off xs).length=ds.length
 |[],_,_=>rfl
 |x::xs,ds,off=>by unfold kJ;rw[PD];simp
def pd:List Value->Nat->List Value->List Value
 |e,_,[]=>e
 |e,off,v::vs=>pd (e.set off v) (off+1) vs
theorem Z13{c:Ctx}{w:World}:∀{xs:List D} {us:List Value} {ds:List D} {vs:List Value} {off:Nat},je c w ds vs->je c w xs us->je c w (kJ ds off xs) (pd vs off us)
 |[],[],_,_,_,h,_=>h
 |[],_::_,_,_,_,_,h=>h.elim
 |_::_,[],_,_,_,_,h=>h.elim
 |x::xs,u::us,ds,vs,off,h,hx=>by unfold kJ pd;exact Z13 (h.set off hx.1) hx.2
theorem Qul:∀(us:List Value) (k off:Nat) (cells:Array Value),
 ((us.zipIdx k).foldl (λcs (x:Value×Nat)=>cs.setIfInBounds (off+x.2) x.1) cells).toList=pd cells.toList (off+k) us
 |[],_,_,_=>by simp[pd]
 |u::us,k,off,cells=>by
  simp only[List.zipIdx_cons,List.foldl_cons,pd]
  rw[Qul us (k+1) off]
  simp[Array.toList_setIfInBounds,fP]
theorem Zi7(v:Value)(off:Nat)(cells:Array Value):
 (v.cells.zipIdx.foldl (λcs (x:Value×Nat)=>cs.setIfInBounds (off+x.2) x.1) cells).toList=pd cells.toList off v.cells.toList:=by
 rw[<-Array.foldl_toList,Array.toList_zipIdx]
 exact Qul v.cells.toList 0 off cells
theorem YE{place:Nat->Option (Nat×Nat)}{ev:Operand->D}:∀{parts:List (Nat×Operand)} {ds:List D} {K:List D->Prop},EV place ev parts ds K->
 ∃ nV,K nV/\∀c w (ρ:Operand->Value) (cells:Array Value),je c w ds cells.toList->(∀p∈parts,Rep c w (ev p.2) (ρ p.2))->
  ∃dr,Instr.fill place cells (parts.map λp=>(p.1,ρ p.2))=some dr/\je c w nV dr.toList
 |[],ds,K,h=>⟨ds,D.e9.1 h,λc w ρ cells hr _=>⟨cells,rfl,hr⟩⟩
 |(i,x)::ps,ds,K,h=>by
  unfold EV at h
  split at h
  ·rename_i off n hp
   simp only[de,aE]at h
   obtain⟨⟨⟨hv,hn⟩,hle⟩,h⟩:=h
   have hn:=bE hn
   have hle:=lE hle
   obtain⟨nV,hK,hr⟩:=YE h
   refine⟨nV,hK,λc w ρ cells hc kK=>?_⟩
   have hx:=Rep.cells hv (kK (i,x) (by simp))
   have hlen:(ρ x).cells.size=n:=by rw[<-hn,hx.length];simp
   have fq:cells.size=ds.length:=by rw[hc.length];simp
   have ez:je c w (kJ ds off (ev x).cells) ((ρ x).cells.zipIdx.foldl (λcs (x:Value×Nat)=>cs.setIfInBounds (off+x.2) x.1) cells).toList:=by
    rw[Zi7];exact Z13 hc hx
   obtain⟨dr,h1,h2⟩:=hr c w ρ _ ez (λp hp=>kK p (by simp[hp]))
   refine⟨dr,?_,h2⟩
   simp only[fG,Instr.fill,hp]
   rw[if_neg (by simp;omega)]
   exact h1
  ·exact h.elim
theorem Zbg{v:Value}{d:D}(h:PE v=some d)(c:Ctx)(w:World):dd c w d v:=by
 cases v<;>simp only[PE]at h<;>first|(cases h;done)|skip
 case nilIface=>simp at h;subst h;rfl
 case nilFunc=>simp at h;subst h;rfl
 case bool b=>simp at h;subst h;rfl
 case int k n=>simp at h;subst h;rfl
 case string s=>simp at h;subst h;simp[dd]
 case pointer a=>cases a<;>simp at h;subst h;rfl
 case slice a n cp=>
  split at h
  all_goals first|(simp at h;subst h;simp_all [dd];done)|(simp_all;done)
theorem I1:∀{vs:List Value} {ds:List D},AU vs=some ds->∀(c:Ctx) (w:World),je c w ds vs
 |[],ds,h,c,w=>by simp[AU]at h;subst h;trivial
 |v ::vs,ds,h,c,w=>by
  simp only[AU]at h
  split at h
  ·rename_i d l h1 h2
   simp at h;subst h
   exact⟨Zbg h1 c w,I1 h2 c w⟩
  ·cases h
theorem MC{v:Value}{d:D}(h:FG v=some d)(c:Ctx)(w:World):Rep c w d v:=by
 have one:PE v=some d->Rep c w d v:=λh=>by
  have:=Zbg h c w
  cases d<;>first|exact this|trivial|exact this.elim
 cases v with
 |agg cs=>
  simp only[FG,fF]at h
  obtain⟨ds,h1,h2⟩:=h
  subst h2
  exact⟨cs.toList,by simp,I1 h1 c w⟩
 |_=>exact one h
theorem GI{P:Program}{T:e7}(hT:jb P T){t:TypeId}{k:TK}{a b:Nat}{cs:List pO}{z:List D}{e:Bool}(h:T.get t=some ⟨k,a,b,cs,some z,e⟩):
 ∃i u,P.info? t=some i/\i.zero=some u/\AU u.cells.toList=some z/\i.size=a/\i.bytes=b/\P.cellsOf t=a/\∀w,(zeroValue t).run P w=.ok u w:=by
 obtain⟨i,hi,hs,hb,hl,hk,hz,_⟩:=De (hT.get h)
 simp only at hz hs hb
 have hz:=hz.symm
 simp only[Option.bind_eq_some_iff]at hz
 obtain⟨u,hu,hz⟩:=hz
 refine⟨i,u,hi,hu,hz,hs,hb,by simp[Program.cellsOf,hi,hs],λw=>?_⟩
 simp[zeroValue,typeInfo,hi,hu]
theorem Zbz{P:Program}(w:World):∀(fs:List Field),(∀f∈fs,0<P.cellsOf f.type)->
 (fs.mapM λf=>do pure (f.offset,<-sizeOf f.type):Sem (List (Nat×Nat))).run P w=.ok (fs.map λf=>(f.offset,P.cellsOf f.type)) w
 |[],_=>rfl
 |f::fs,h=>by
  simp only[List.mapM_cons,Sem.run_bind,Ai (h f (by simp)),Result.andThen_ok,Sem.run_pure,Zbz w fs (λg hg=>h g (by simp[hg])),fG]
theorem yT{P:Program}{T:e7}(hT:jb P T){t:TypeId}{parts:List (Nat×Operand)}{ev:Operand->D}{R:Rows}{K:D->Rows->Prop}(h:LW T t parts ev R K):
 ∃val,K val R/\∀c w (ρ:Operand->Value),(∀p∈parts,Rep c w (ev p.2) (ρ p.2))->FJ P (Instr.build t (parts.map λp=>(p.1,ρ p.2)).toArray) w c val:=by
 unfold LW at h
 split at h
 ·rename_i fs _ _ _ ds _ ht
  obtain⟨i,u,hi,hu,hz,_,_,_,hzero⟩:=GI hT ht
  obtain⟨gs,hd,MS⟩:=mm hT ht
  rw[de]at h
  obtain⟨ua,h⟩:=h
  have ua:∀f∈gs.toList,0<P.cellsOf f.type:=λf hf=>by
   have:=List.all_eq_true.1 ua (f.offset,f.type,P.cellsOf f.type) (by rw[MS];exact List.mem_map.2 ⟨f,hf,rfl⟩)
   exact lE this
  obtain⟨nV,hK,hr⟩:=YE h
  refine⟨_,hK,λc w ρ kK=>?_⟩
  obtain⟨dr,h1,h2⟩:=hr c w ρ u.cells (I1 hz c w) kK
  refine⟨.agg dr,?_,dr.toList,by simp,h2⟩
  have YF:(gs.mapM λf=>do pure (f.offset,<-sizeOf f.type):Sem (Array (Nat×Nat))).run P w=.ok (gs.map λf=>(f.offset,P.cellsOf f.type)) w:=by
   have:=Zbz (P:=P) w gs.toList ua
   rw[<-bW (xs:=gs),List.mapM_toArray]
   simp only[Sem.run_map,this,Result.andThen_ok,bW]
   congr 1
   apply Array.ext'
   simp
  have Dh:(λ(i:Nat)=>(gs.map λf=>(f.offset,P.cellsOf f.type))[i]?)=(λ(i:Nat)=>(fs[i]?).map λ(f:Nat×TypeId×Nat)=>(f.1,f.2.2)):=by
   funext i
   rw[MS]
   simp
   cases gs[i]? <;>rfl
  unfold Instr.build
  simp only[Sem.run_bind,hzero,Result.andThen_ok,run_underlying hd,YF]
  rw[Dh]
  simp only[h1,Sem.run_pure]
 ·rename_i m e iC _ _ _ ds _ ht
  obtain⟨i,u,hi,hu,hz,_,_,_,hzero⟩:=GI hT ht
  have hk:=mm hT ht
  simp only at hk
  rw[de]at h
  obtain⟨h0,h⟩:=h
  have h0:0<iC:=lE h0
  obtain⟨nV,hK,hr⟩:=YE h
  refine⟨_,hK,λc w ρ kK=>?_⟩
  obtain⟨dr,h1,h2⟩:=hr c w ρ u.cells (I1 hz c w) kK
  refine⟨.agg dr,?_,dr.toList,by simp,h2⟩
  unfold Instr.build
  simp only[Sem.run_bind,hzero,Result.andThen_ok,run_underlying hk.1,Ai (hk.2▸h0),hk.2]
  simp only[h1,Sem.run_pure]
 ·exact h.elim
def Uo(c:Ctx)(w:World)(row:Row)(arr:Array Value):Prop:=
 0<row.sz/\if row.box then∃e,row.es=.gen [e]/\e.length=row.sz/\arr.size=row.sz/\ku c w e arr 0 else ij c.I w row.es.l arr 0 row.sz
def Pt(P:Program)(x:Sem Value)(w:World)(c:Ctx)(k:Nat)(row:Row)(d:D):Prop:=
 ∃u arr,x.run P w=.ok u (w.alloc (.cells arr row.ty))/\Uo c w row arr/\(c.R k=none->Mem c w->Rep (c.add k row w.heap.size) (w.alloc (.cells arr row.ty)) d u)
theorem Ziw{c:Ctx}{w:World}:∀{ds:List D} {vs:List Value} {pre:List Value},je c w ds vs->ku c w ds (pre++vs).toArray pre.length
 |[],_,_,_=>trivial
 |d::ds,[],_,h=>h.elim
 |d::ds,v::vs,pre,h=>by
  refine⟨⟨v,by simp,h.1⟩,?_⟩
  have:=Ziw (pre:=pre++[v]) h.2
  simpa using this
theorem YG{c:Ctx}{w:World}{t:TypeId}{sz:Nat}{ds:List D}{vs:Array Value}(h0:0<sz)(hl:ds.length=sz)(h:je c w ds vs.toList):Uo c w ⟨true,t,sz,.gen [ds]⟩ vs:=by
 refine⟨h0,?_⟩
 simp only[if_true]
 refine⟨ds,rfl,hl,by rw[<-hl,h.length];simp,?_⟩
 have:=Ziw (pre:=[]) h
 simpa using this
theorem YH(P:Program)(t:TypeId)(v:Value)(w:World):(newVar t v).run P w=.ok ⟨w.heap.size,0,none⟩ (w.alloc (.cells v.cells t)):=rfl
theorem Zq2{P:Program}{T:e7}(hT:jb P T){t:TypeId}{k:TK}{sz b:Nat}{cs:List pO}{ds:List D}{e:Bool}(ht:T.get t=some ⟨k,sz,b,cs,some ds,e⟩)(h0:0<sz)(hl:ds.length=sz)(n:Nat)(c:Ctx)(w:World):
 Pt P (Instr.alloc t true (.tuple #[])) w c n ⟨true,t,sz,.gen [ds]⟩ (.ptr n 0 0):=by
 obtain⟨i,u,hi,hu,hz,_,_,_,hzero⟩:=GI hT ht
 refine⟨.pointer (some ⟨w.heap.size,0,none⟩),u.cells,?_,YG h0 hl (I1 hz c w),λ_ _=>?_⟩
 ·simp only[Instr.alloc,Sem.run_bind,hzero,Result.andThen_ok,YH,Sem.run_pure]
 ·exact⟨_,(Ctx.iU _ _ _ _).1,by simp[Ctx.add],by simp[ah.len],by simp[(Ctx.iU _ _ _ _).2]⟩
theorem zaI{P:Program}{t:TypeId}{sz:Nat}{d:D}{v:Value}(h0:0<sz)(hv:d.isVal=true)(hl:d.cells.length=sz)(n:Nat)(c:Ctx)(w:World)(hr:Rep c w d v):
 Pt P (Instr.box t v) w c n ⟨true,t,sz,.gen [d.cells]⟩ (.ptr n 0 0):=by
 refine⟨.pointer (some ⟨w.heap.size,0,none⟩),v.cells,?_,YG h0 hl (Rep.cells hv hr),λ_ _=>?_⟩
 ·simp only[Instr.box,Sem.run_bind,YH,Result.andThen_ok,Sem.run_pure]
 ·exact⟨_,(Ctx.iU _ _ _ _).1,by simp[Ctx.add],by simp[ah.len],by simp[(Ctx.iU _ _ _ _).2]⟩
theorem tH{I:ab}{w:World}:∀{cs:List D} {arr:Array Value} {off:Nat},oB I w cs arr off↔ ∀j,j<cs.length->∃v,arr[off+j]?=some v/\fx I w (cs.getD j .dead) v
 |[],arr,off=>by simp[Df,Dg]
 |d ::cs,arr,off=>by
  simp only[Df,Dg,tH (cs:=cs)]
  constructor
  ·rintro⟨h1,h2⟩ j hj
   cases j with
   |zero=>simpa using h1
   |succ j=>
    have:=h2 j (by simpa using hj)
    rw[show off+1+j=off+(j+1) by omega]at this
    simpa using this
  ·intro h
   refine⟨by simpa using h 0 (by simp),λj hj=>?_⟩
   have:=h (j+1) (by simpa using hj)
   rw[show off+(j+1)=off+1+j by omega]at this
   simpa using this
theorem sW{I:ab}{w:World}:∀{es:List (List D)} {arr:Array Value} {off sz:Nat},ij I w es arr off sz↔ ∀i,i<es.length->(es.getD i []).length=sz/\oB I w (es.getD i []) arr (off+i*sz)
 |[],arr,off,sz=>by simp[pQ,pB]
 |e ::es,arr,off,sz=>by
  simp only[pQ,pB,sW (es:=es)]
  constructor
  ·rintro⟨h1,h2,h3⟩ i hi
   cases i with
   |zero=>simpa using⟨h1,h2⟩
   |succ i=>
    have:=h3 i (by simpa using hi)
    rw[show off+sz+i*sz=off+(i+1)*sz by rw[bF];omega]at this
    simpa using this
  ·intro h
   have h0:=h 0 (by simp)
   simp at h0
   refine⟨h0.1,h0.2,λi hi=>?_⟩
   have:=h (i+1) (by simpa using hi)
   rw[show off+(i+1)*sz=off+sz+i*sz by rw[bF];omega]at this
   simpa using this
theorem Zcc{c:Ctx}{w:World}:∀{cs:List D} {arr:Array Value} {off:Nat},ku c w cs arr off↔ ∀j,j<cs.length->∃v,arr[off+j]?=some v/\dd c w (cs.getD j .dead) v
 |[],arr,off=>by simp[ku]
 |d ::cs,arr,off=>by
  simp only[ku,Zcc (cs:=cs)]
  constructor
  ·rintro⟨h1,h2⟩ j hj
   cases j with
   |zero=>simpa using h1
   |succ j=>
    have:=h2 j (by simpa using hj)
    rw[show off+1+j=off+(j+1) by omega]at this
    simpa using this
  ·intro h
   refine⟨by simpa using h 0 (by simp),λj hj=>?_⟩
   have:=h (j+1) (by simpa using hj)
   rw[show off+(j+1)=off+1+j by omega]at this
   simpa using this
theorem PF:∀{us vs:List Value} {off k:Nat},off+us.length<=vs.length->(pd vs off us)[k]?=if off<=k/\k<off+us.length then us[k-off]? else vs[k]?
 |[],vs,off,k,_=>by
  have:¬(off<=k/\k<off):=by omega
  simp[pd,this]
 |u ::us,vs,off,k,h=>by
  simp only[dD]at h
  unfold pd
  rw[PF (us:=us) (by simp;omega)]
  by_cases h1:off+1<=k/\k<off+1+us.length
  ·rw[if_pos h1,if_pos (by simp;omega)]
   rw[show k-off=(k-(off+1))+1 by omega]
   simp
  ·rw[if_neg h1]
   by_cases h2:k=off
   ·subst h2
    rw[if_pos (by simp)]
    simp only[fU,fV]
    rw[fW (by omega)]
   ·rw[if_neg (by simp;omega),fX (by omega)]
theorem Up:∀{us vs:List Value} {off:Nat},(pd vs off us).length=vs.length
 |[],_,_=>rfl
 |u::us,vs,off=>by unfold pd;rw[Up];simp
theorem GW:∀{us vs:List D} {off k:Nat},off+us.length<=vs.length->(kJ vs off us)[k]?=if off<=k/\k<off+us.length then us[k-off]? else vs[k]?
 |[],vs,off,k,_=>by
  have:¬(off<=k/\k<off):=by omega
  simp[kJ,this]
 |u ::us,vs,off,k,h=>by
  simp only[dD]at h
  unfold kJ
  rw[GW (us:=us) (by simp;omega)]
  by_cases h1:off+1<=k/\k<off+1+us.length
  ·rw[if_pos h1,if_pos (by simp;omega)]
   rw[show k-off=(k-(off+1))+1 by omega]
   simp
  ·rw[if_neg h1]
   by_cases h2:k=off
   ·subst h2
    rw[if_pos (by simp)]
    simp only[fU,fV]
    rw[fW (by omega)]
   ·rw[if_neg (by simp;omega),fX (by omega)]
theorem dd.plain{c:Ctx}{w:World}{d:D}{v:Value}(hp:d.plain=true)(h:dd c w d v):fx c.I w d v:=by
 cases d<;>(try(simp[D.plain]at hp;done))
 case bool=>exact rS.2 h
 case int=>exact rT.2 h
 case str=>exact rU.2 h
 case iB=>exact rV.2 h
 case c8=>exact rW.2 h
 case emp=>exact rY.2 (let⟨a,g,_⟩:=h;⟨a,g⟩)
 obtain⟨a,cap,hv,hc,gx⟩:=h
 refine sY.2 ⟨a,cap,hv,hc,?_⟩
 rcases gx with gx|⟨b,off,arr,ty,fz,ha,hI,hf,hh,hE⟩
 ·exact .inl gx
 ·exact .inr ⟨b,off,arr,ty,fz,ha,hI,hh,So.2 hE⟩
theorem Z1g{c:Ctx}{w:World}{es:List (List D)}{arr:List Value}{sz i off:Nat}{xs:List D}{us:List Value}(h:ij c.I w es arr.toArray 0 sz)(hi:i<es.length)(PG:off+xs.length<=sz)
 (hx:je c w xs us) (hp:xs.all D.plain=true) (ha:i*sz+sz<=arr.length):ij c.I w (es.set i (kJ (es.getD i []) off xs)) (pd arr (i*sz+off) us).toArray 0 sz:=by
 have hlen:=hx.length
 rw[sW]at h⊢
 intro k hk
 have uM:k<es.length:=by simpa using hk
 obtain⟨h1,h2⟩:=h k uM
 rw[tH]at h2
 by_cases nQ:k=i
 ·subst nQ
  have he:(es.set k (kJ (es.getD k []) off xs)).getD k []=kJ (es.getD k []) off xs:=by simp[aV,uM]
  rw[he]
  refine⟨by rw[PD];exact h1,?_⟩
  rw[tH]
  intro j hj
  rw[PD,h1]at hj
  have hg:(kJ (es.getD k []) off xs).getD j .dead=if off<=j/\j<off+xs.length then(xs.getD (j-off) .dead)else(es.getD k []).getD j .dead:=by
   simp only[aV]
   rw[GW (by simp only[aV]at h1;omega)]
   split<;>rfl
  have hv:(pd arr (k*sz+off) us).toArray[0+k*sz+j]?=if off<=j/\j<off+xs.length then us[j-off]? else arr[k*sz+j]? :=by
   simp only[bH,bG]
   rw[PF (by omega)]
   by_cases hc:off<=j/\j<off+xs.length
   ·rw[if_pos (by omega),if_pos hc];congr 1;omega
   ·rw[if_neg (by omega),if_neg hc]
  rw[hg,hv]
  split
  ·rename_i hc
   have PH:j-off<us.length:=by omega
   have YF:(xs.getD (j-off) .dead).plain=true:=by
    have hm:xs.getD (j-off) .dead∈xs:=by
     simp only[aV,aI (show j-off<xs.length by omega),aR]
     exact eT _
    exact List.all_eq_true.1 hp _ hm
   exact⟨us[j-off],aI PH,dd.plain YF ((DH.1 hx).2 _ _ (aI PH))⟩
  ·obtain⟨v,IY,LP⟩:=h2 j (by rw[h1];exact hj)
   exact⟨v,by simpa using IY,LP⟩
 ·have he:(es.set i (kJ (es.getD i []) off xs)).getD k []=es.getD k []:=by
   simp[aV,fX (Ne.symm nQ)]
  rw[he]
  refine⟨h1,?_⟩
  rw[tH]
  intro j hj
  obtain⟨v,IY,LP⟩:=h2 j hj
  refine⟨v,?_,LP⟩
  simp only[bH,bG]at IY⊢
  rw[PF (by omega),if_neg]
  ·exact IY
  ·rw[h1]at hj
   rintro⟨g1,g2⟩
   rcases Nat.lt_or_gt_of_ne nQ with bg|bg
   ·have:=bD sz (show k+1<=i by omega)
    rw[bF]at this
    omega
   ·have:=bD sz (show i+1<=k by omega)
    rw[bF]at this
    omega
theorem Z5x{I:ab}{w:World}{es:List (List D)}{arr:Array Value}{sz i:Nat}(h:ij I w es arr 0 sz)(h0:0<sz)(hi:i<es.length):i*sz+sz<=arr.size:=by
 obtain⟨h1,h2⟩:=sW.1 h i hi
 obtain⟨v,hv,_⟩:=tH.1 h2 (sz-1) (by omega)
 have:=(Array.getElem?_eq_some_iff.1 hv).1
 omega
def Ctx.jJ(c:Ctx)(r:Nat)(row:Row):Ctx:={c with R:=λs=>if s=r then some row else c.R s}
theorem RO(w:World)(g:Nat)(cs:Array Value):Fr (λb=>b=g) w (w.setRow g cs):=
 ⟨rfl,rfl,rfl,by simp[World.setRow],λb _ hb=>setRow_other w g b cs hb⟩
theorem Mem.write{c:Ctx}{w:World}(hm:Mem c w){r:Nat}{row ao:Row}{jv arr:Array Value}(hr:c.R r=some row)(hV:¬c.V r)(hh:w.heap[c.ρ r]?=some (.cells jv row.ty (0,0)))(fq:arr.size=jv.size)
 (h1:ao.box=row.box) (h2:ao.ty=row.ty) (h3:ao.sz=row.sz) (h4:ao.es.l.length=row.es.l.length):
 iW c w (c.jJ r ao) (w.setRow (c.ρ r) arr)/\(Uo (c.jJ r ao) (w.setRow (c.ρ r) arr) ao arr->Mem (c.jJ r ao) (w.setRow (c.ρ r) arr)):=by
 have ez:(w.setRow (c.ρ r) arr).heap[c.ρ r]?=some (.cells arr row.ty (0,0)):=setRow_heap w _ _ _ _ _ hh
 have rJ:∀s x,c.R s=some x->¬c.V s->s≠r->(w.setRow (c.ρ r) arr).heap[c.ρ s]?=w.heap[c.ρ s]? :=λs x hs hv gm=>setRow_other w _ _ _ (λe=>gm (hm.inj s r x row hs hr hv hV e))
 have hg:iW c w (c.jJ r ao) (w.setRow (c.ρ r) arr):=by
  refine⟨rfl,aX _,λb hb=>⟨hb,setRow_other w _ _ _ (λe=>(hm.ff b hb).2 r row hr hV e.symm)⟩,λs x hs=>?_⟩
  by_cases e:s=r
  ·subst e
   rw[hr]at hs;cases hs
   exact⟨ao,by simp[Ctx.jJ],h1,h2,h3,h4,rfl,Iff.rfl,λ_ a ha=>⟨arr,ez,by rw[hh]at ha;cases ha;exact fq⟩⟩
  ·exact⟨x,by simp[Ctx.jJ,e,hs],rfl,rfl,rfl,rfl,rfl,Iff.rfl,λnv a ha=>⟨a,by rw[rJ s x hs nv e];exact ha,rfl⟩⟩
 refine⟨hg,λhi=>⟨λs x hs=>?_,λs q x y hs hq v1 v2 he=>?_,λb hb=>?_,by show c.top<=(w.setRow _ _).heap.size;simpa[World.setRow]using hm.top,hm.jP.mono hg.I⟩⟩
 ·by_cases e:s=r
  ·subst e
   simp only[Ctx.jJ,if_true,Option.some.injEq]at hs
   subst hs
   exact .inr ⟨hV,arr,by rw[h2];exact ez,hi.1,hi.2⟩
  ·have iP:c.R s=some x:=by simpa[Ctx.jJ,e]using hs
   exact sV hg rfl Iff.rfl (λnv=>rJ s x iP nv e) (hm.row s x iP)
 ·have jv:∀s x,(c.jJ r ao).R s=some x->∃x',c.R s=some x':=λs x hs=>by
   by_cases e:s=r
   ·exact⟨row,by rw[e];exact hr⟩
   ·exact⟨x,by simpa[Ctx.jJ,e]using hs⟩
  obtain⟨x',jD⟩:=jv s x hs
  obtain⟨y',wQ⟩:=jv q y hq
  exact hm.inj s q x' y' jD wQ v1 v2 he
 ·obtain⟨g1,g2⟩:=hm.ff b hb
  refine⟨by simpa[World.setRow]using g1,λs x hs hv=>?_⟩
  by_cases e:s=r
  ·subst e;exact g2 s row hr hV
  ·exact g2 s x (by simpa[Ctx.jJ,e]using hs) hv
theorem Zli{P:Program}{t:TypeId}{n:Nat}(hs:P.cellsOf t=n)(h0:0<n){w:World}{g o:Nat}{ty:TypeId}{cur:Array Value}(hg:w.heap[g]?=some (.cells cur ty (0,0))){v:Value}(hn:v.cells.size=n)(hr:o+n<=cur.size)(h1:∀u∈v.cells.toList,u.oneCell'=true):
 (Instr.storeAt t (.pointer (some ⟨g,o,none⟩)) v).run P w=.ok () (w.setRow g (pd cur.toList o v.cells.toList).toArray):=by
 have h:=run_storeCells_at (P:=P) g o ty v.cells.toList 0 cur w hg (by simp;omega) h1
 have gm:¬v.cells.size≠P.cellsOf t:=by omega
 simp only[Instr.storeAt,Instr.sureAddr,Sem.run_bind,Sem.run_pure,Result.andThen_ok,storeVar,Ai (hs▸h0),Sem.run_ite,gm,if_false,h]
 congr 3
 apply fY
 intro k
 rw[PF (by simp;omega)]
 simp only[aB,Array.length_toList]
 by_cases hc:o<=k/\k<o+v.cells.size
 ·rw[if_pos hc,aM,bJ (by simp;omega),bI (by simp;omega)]
  congr 1;simp;omega
 ·rw[if_neg hc]
  by_cases hk:k<o
  ·rw[aM,bI (by simp;omega),List.getElem?_take_of_lt hk]
  ·rw[bJ (by simp;omega),List.getElem?_drop]
   congr 1;simp;omega
theorem je.one{c:Ctx}{w:World}:∀{ds:List D} {vs:List Value},je c w ds vs->∀u∈vs,u.oneCell'=true
 |[],[],_,_,h=>by simp at h
 |d::ds,v::vs,h,u,hu=>by
  rcases List.mem_cons.1 hu with e|e
  ·subst e;exact dd.one h.1
  ·exact je.one h.2 u e
theorem Zjb{c:Ctx}{w:World}{e:List D}{arr:List Value}{off:Nat}{xs:List D}{us:List Value}(h:ku c w e arr.toArray 0)(PG:off+xs.length<=e.length)(he:e.length=arr.length)
 (hx:je c w xs us):ku c w (kJ e off xs) (pd arr off us).toArray 0:=by
 have hlen:=hx.length
 rw[Zcc]at h⊢
 intro j hj
 rw[PD]at hj
 simp only[aV,bH,bG]at h⊢
 rw[GW PG,PF (by omega)]
 by_cases hc:off<=j/\j<off+xs.length
 ·rw[if_pos hc,if_pos (by omega)]
  have PH:j-off<us.length:=by omega
  exact⟨us[j-off],aI PH,(DH.1 hx).2 _ _ (aI PH)⟩
 ·rw[if_neg hc,if_neg (by omega)]
  exact h j hj
def sG(P:Program)(x:Sem Unit)(w:World)(c:Ctx)(R':Rows):Prop:=
 ∃r ao arr w',x.run P w=.ok () w'/\w'=w.setRow (c.ρ r) arr/\(∃row,c.R r=some row)/\¬c.V r/\iW c w (c.jJ r ao) w'/\Mem (c.jJ r ao) w'/\∀s,(c.jJ r ao).R s=R'.getD s none
theorem Zb5{k:IntKind}{l:List Int}:∀{n j i:Nat},i<n->(GX k l j n)[i]?=some (.int k (l.getD (j+i) 0))
 |n+1,j,0,_=>by simp[GX]
 |n+1,j,i+1,h=>by
  have:=Zb5 (k:=k) (l:=l) (n:=n) (j:=j+1) (i:=i) (by omega)
  rw[show j+1+i=j+(i+1) by omega]at this
  simpa[GX]using this
theorem YI{k:IntKind}{l:List Int}:∀{n j:Nat},(GX k l j n).length=n
 |0,_=>rfl
 |n+1,j=>by simp[GX,YI (n:=n)]
theorem Zai{l:List Bool}:∀{n j i:Nat},i<n->(GY l j n)[i]?=some (.bool (l.getD (j+i) false))
 |n+1,j,0,_=>by simp[GY]
 |n+1,j,i+1,h=>by
  have:=Zai (l:=l) (n:=n) (j:=j+1) (i:=i) (by omega)
  rw[show j+1+i=j+(i+1) by omega]at this
  simpa[GY]using this
theorem YJ{l:List Bool}:∀{n j:Nat},(GY l j n).length=n
 |0,_=>rfl
 |n+1,j=>by simp[GY,YJ (n:=n)]
theorem Z4y{e:List D}:∀{n off:Nat},(ints e off n).length=n
 |0,_=>rfl
 |n+1,off=>by simp[ints,Z4y (n:=n)]
theorem Z1t{e:List D}:∀{n off:Nat},(ag e off n).length=n
 |0,_=>rfl
 |n+1,off=>by simp[ag,Z1t (n:=n)]
theorem FI{R:Rows}{r:Nat}{row ao:Row}(h:R.getD r none=some row)(s:Nat):(R.set r (some ao)).getD s none=if s=r then some ao else R.getD s none:=by
 have bg:r<R.length:=by
  by_cases hl:r<R.length
  ·exact hl
  ·rw[aV,aJ (by omega)]at h;cases h
 by_cases e:s=r
 ·subst e
  simp[aV,bg]
 ·simp[aV,e,fX (Ne.symm e)]
theorem Zop{P:Program}{t:TypeId}{n:Nat}(kb:P.cellsOf t=n)(h0:0<n){R:Rows}{r i off:Nat}{box:Bool}{ty:TypeId}{sz:Nat}{es iQ:ah}{d:D}
 (hR:R.getD r none=some ⟨box,ty,sz,es⟩) (hv:d.isVal=true) (hn:d.cells.length=n) (hle:off+n<=sz) (hp:box=false->d.cells.all D.plain=true)
 {c:Ctx} {w:World} {v:Value} (hm:Mem c w) (hA:∀r,c.R r=R.getD r none) (hV:¬c.V r) (hi:i<es.l.length) (gx:iQ.l=es.l.set i (kJ (es.l.getD i []) off d.cells)) (wg:box=true->iQ=.gen [kJ (es.get i) off d.cells]) (hd:Rep c w d v):
 sG P (Instr.storeAt t (.pointer (some ⟨c.ρ r,i*sz+off,none⟩)) v) w c (R.set r (some ⟨box,ty,sz,iQ⟩)):=by
 have g1:c.R r=some ⟨box,ty,sz,es⟩:=by rw[hA];exact hR
 have hx:=Rep.cells hv hd
 obtain⟨jv,ho,hs,hb⟩:=hm.real g1 hV
 have hvn:v.cells.size=n:=by rw[<-hn,hx.length];simp
 simp only at ho hs hb
 have fin:∀ao:Row,ao=⟨box,ty,sz,iQ⟩->i*sz+off+n<=jv.size->
  (∀c' w',iW c w c' w'->if ao.box then∃e,ao.es=.gen [e]/\e.length=ao.sz/\(pd jv.toList (i*sz+off) v.cells.toList).toArray.size=ao.sz/\ku c' w' e (pd jv.toList (i*sz+off) v.cells.toList).toArray 0
   else ij c'.I w' ao.es.l (pd jv.toList (i*sz+off) v.cells.toList).toArray 0 ao.sz)->sG P (Instr.storeAt t (.pointer (some ⟨c.ρ r,i*sz+off,none⟩)) v) w c (R.set r (some ao)):=by
  intro ao cz fq ez
  have ie:=Zli (P:=P) kb h0 (o:=i*sz+off) ho hvn fq hx.one
  have Ms:(pd jv.toList (i*sz+off) v.cells.toList).toArray.size=jv.size:=by simp[Up]
  have hw:=hm.write (ao:=ao) g1 hV ho Ms (by rw[cz]) (by rw[cz]) (by rw[cz]) (by rw[cz];simp only[gx,List.length_set])
  refine⟨r,ao,_,_,ie,rfl,⟨_,g1⟩,hV,hw.1,hw.2 ⟨by rw[cz];exact hs,ez _ _ hw.1⟩,λs=>?_⟩
  rw[FI hR]
  simp only[Ctx.jJ]
  split
  ·rfl
  ·exact hA s
 cases box with
 |true=>
  simp only[if_true]at hb
  obtain⟨e,k1,k2,k3,k4⟩:=hb
  rw[k1]at hi gx wg
  have pn:i=0:=by simpa[ah.l]using hi
  subst pn
  simp only[fZ,bG]at fin⊢
  refine fin _ rfl (by omega) λc' w' hg=>?_
  simp only[if_true]
  refine⟨kJ e off d.cells,wg rfl,by rw[PD];exact k2,by simp[Up,k3],MI hg (Zjb (by simpa using k4) (by omega) (by simp;omega) hx)⟩
 |false=>
  simp only[aA,if_false]at hb
  have kC:=Z5x hb hs hi
  refine fin _ rfl (by omega) λc' w' hg=>?_
  simp only[aA,if_false]
  rw[gx]
  exact nh hg.I _ _ _ _ (Z1g (c:=c) (by simpa using hb) hi (by omega) hx (hp rfl) (by simpa using kC))
theorem xaI{k:IntKind}{e:List D}{off len n:Nat}{v:Int}(h:Cr k e off len=true)(hl:off+len<=e.length)(hn:n<len):
 kJ e off (GX k ((ints e off len).set n v) 0 len)=kJ e (off+n) [.int k v]:=by
 apply fY
 intro j
 rw[GW (by rw[YI];omega),GW (by simp;omega)]
 simp only[YI,dD,dE]
 by_cases h1:off<=j/\j<off+len
 ·rw[if_pos h1,Zb5 (by omega)]
  by_cases h2:j=off+n
  ·subst h2
   rw[if_pos (by omega)]
   simp[aV,Z4y,show off+n-off=n by omega,hn]
  ·rw[if_neg (by omega)]
   have hg:=T0 (e:=e) (off:=off) (show j-off<len by omega)
   have hi:=D.jZ (T9 h (show j-off<len by omega))
   rw[show off+(j-off)=j by omega]at hg hi
   have hj:e[j]?=some e[j]:=aI (by omega)
   simp only[aV,hj,aR]at hg hi
   rw[hj]
   simp only[aV,bG]
   rw[fX (by omega)]
   rw[hg,<-hi]
 ·rw[if_neg h1,if_neg (by omega)]
theorem xas{e:List D}{off len n:Nat}{v:Bool}(h:GP e off len=true)(hl:off+len<=e.length)(hn:n<len):
 kJ e off (GY ((ag e off len).set n v) 0 len)=kJ e (off+n) [.bool v]:=by
 apply fY
 intro j
 rw[GW (by rw[YJ];omega),GW (by simp;omega)]
 simp only[YJ,dD,dE]
 by_cases h1:off<=j/\j<off+len
 ·rw[if_pos h1,Zai (by omega)]
  by_cases h2:j=off+n
  ·subst h2
   rw[if_pos (by omega)]
   simp[aV,Z1t,show off+n-off=n by omega,hn]
  ·rw[if_neg (by omega)]
   have hg:=T8 (e:=e) (off:=off) (show j-off<len by omega)
   have hi:=D.j0 (Ua h (show j-off<len by omega))
   rw[show off+(j-off)=j by omega]at hg hi
   have hj:e[j]?=some e[j]:=aI (by omega)
   simp only[aV,hj,aR]at hg hi
   rw[hj]
   simp only[aV,bG]
   rw[fX (by omega)]
   rw[hg,<-hi]
 ·rw[if_neg h1,if_neg (by omega)]
theorem Zqu{P:Program}{T:e7}(hT:jb P T){t:TypeId}{x d:D}{R:Rows}{K:D->Rows->Prop}(h:GZ T t x d R K):
    ∃R',K .dead R'/\ ∀c w a v,Mem c w->(∀r,c.R r=R.getD r none)->Rep c w x a->Rep c w d v->sG P (Instr.storeAt t a v) w c R':=by
  unfold GZ at h
  cases ht:T.get t with
  |none=>simp only[ht]at h
  | some ti =>
    simp only[ht]at h
    obtain⟨i0,pn,Bm,_,JQ,wR,_⟩:=De (hT.get ht)
    have kb:P.cellsOf t=ti.size:=by simp [Program.cellsOf,pn,Bm]
    cases x<;>simp only at h
    case ptr r i off=>
      cases hR:R.getD r none with
      |none=>simp only[hR]at h
      | some row=>
        obtain⟨box,ty,sz,es⟩:=row
        simp only[hR,de,aE]at h
        obtain⟨⟨⟨⟨h0,hv⟩,hn⟩,hle⟩,h⟩:=h
        have h0:0<ti.size:=lE h0
        have hn:=bE hn
        have hle:=lE hle
        have go: ∀iQ:ah,(box=false->d.cells.all D.plain=true)-> ∀c w a v,Mem c w->(∀r,c.R r=R.getD r none)->Rep c w (.ptr r i off) a->Rep c w d v->
            (∃row:Row,c.R r=some row/\row=⟨box,ty,sz,es⟩/\ ¬c.V r/\i<es.l.length)/\(iQ.l=es.l.set i (kJ (es.l.getD i []) off d.cells)->(box=true->iQ= .gen [kJ (es.get i) off d.cells])->sG P (Instr.storeAt t a v) w c (R.set r (some ⟨box,ty,sz,iQ⟩))):=by
          intro iQ hp c w a v hm hA ha hd
          obtain⟨row,g1,gV,g2,ha⟩:=ha
          have cz:row=⟨box,ty,sz,es⟩:=by rw[hA,hR]at g1;exact(Option.some.inj g1).symm
          subst cz
          subst ha
          exact⟨⟨_,g1,rfl,gV,g2⟩,λhe wg=>Zop kb h0 hR hv hn hle hp hm hA gV g2 he wg hd⟩
        cases box with
        | true=>
          simp only[D.e9,mV]at h
          refine⟨_,h,λc w a v hm hA ha hd=> ?_⟩
          obtain⟨⟨row,g1,cz,gV,g2⟩,hw⟩:=go (.gen [kJ (es.get i) off d.cells]) (by simp) c w a v hm hA ha hd
          subst cz
          obtain⟨jv,ho,hs,hb⟩:=hm.real g1 gV
          simp only[if_true]at hb
          obtain⟨e,k1,k2,k3,k4⟩:=hb
          have iu:=ah.mW es (show i<es.len by simpa using g2)
          refine hw ?_ (λ_=>rfl)
          rw[<-iu,k1]
          rw[k1]at g2
          have pn:i=0:=by simpa [ah.l] using g2
          subst pn
          rfl
        | false=>
          simp only[mV]at h
          refine⟨_,h.2,λc w a v hm hA ha hd=> ?_⟩
          obtain⟨⟨row,g1,cz,gV,g2⟩,hw⟩:=go _ (λ_=>h.1) c w a v hm hA ha hd
          exact hw (by rw[ah.PI,ah.mW es (show i<es.len by simpa using g2)]) (by simp)
    case pa r i off len k n=>
      cases hR:R.getD r none with
      |none=>simp only[hR]at h
      | some row=>
        obtain⟨box,ty,sz,es⟩:=row
        simp only[hR,de,aE]at h
        obtain⟨⟨EU,hle⟩,h⟩:=h
        subst EU
        have hle:=lE hle
        have go: ∀(x:D) (xs:List D),x.isVal=true->x.cells=[x]->ti.size=1->(n<len->off+len<=(es.get i).length->kJ (es.get i) off xs=kJ (es.get i) (off+n) [x])-> ∀c w a v,Mem c w->(∀r,c.R r=R.getD r none)->Rep c w (.pa r i off len k n) a->Rep c w x v->
            sG P (Instr.storeAt t a v) w c (R.set r (some ⟨true,ty,sz, .gen [kJ (es.get i) off xs]⟩)):=by
          intro x xs hv hc fq heq c w a v hm hA ha hd
          obtain⟨hn,row,g1,gV,g2,ha⟩:=ha
          have cz:row=⟨true,ty,sz,es⟩:=by rw[hA,hR]at g1;exact(Option.some.inj g1).symm
          subst cz
          subst ha
          obtain⟨jv,ho,hs,hb⟩:=hm.real g1 gV
          simp only[if_true]at hb
          obtain⟨e,k1,k2,k3,k4⟩:=hb
          simp only at g2
          have iu:=ah.mW es (show i<es.len by simpa using g2)
          have hlen:(es.get i).length=sz:=by
            rw[<-iu,k1]
            rw[k1]at g2
            have pn:i=0:=by simpa [ah.l] using g2
            subst pn
            exact k2
          refine Zop (off:=off+n) kb (by omega) hR hv (by rw[hc,fq];rfl) (by omega) (by simp) hm hA gV g2 ?_ (λ_=>by rw[hc,heq hn (by omega)]) hd
          rw[iu,hc,heq hn (by omega)]
          rw[k1]at g2⊢
          have pn:i=0:=by simpa [ah.l] using g2
          subst pn
          rfl
        split at h
        . rename_i j k' k'' v hk
          simp only[decide_eq_true_eq,D.e9,mV]at h
          obtain⟨⟨⟨rfl,rfl⟩,iJ⟩,h⟩:=h
          refine⟨_,h,λc w a u hm hA ha hd=>go (.int _ v) _ rfl rfl (Ub (hT.get ht) (by rw[hk];simp [TK.isAgg])) (λhn hl=>xaI iJ hl hn) c w a u hm hA ha hd⟩
        . rename_i v hk
          simp only[D.e9,mV]at h
          obtain⟨iJ,h⟩:=h
          refine⟨_,h,λc w a u hm hA ha hd=>go (.bool v) _ rfl rfl (Ub (hT.get ht) (by rw[hk];simp [TK.isAgg])) (λhn hl=>xas iJ hl hn) c w a u hm hA ha hd⟩
        . exact h.elim
def sv:D->Value
 |.int k n=>.int k n
 |.bool b=>.bool b
 |.str s=>.string ⟨s.toArray⟩
 |_=>undef
def pJ(xs:Array Value)(o:Nat)(az:List D):Prop:=∀j d,az[j]?=some d->xs[o+j]?=some (sv d)
theorem PJ:∀{t u:List pO} {l:List D},fits (t++u) l=true->∃a b,l=a++b/\fits t a=true/\fits u b=true/\a.length=t.length
 |[],u,l,h=>⟨[],l,rfl,rfl,h,rfl⟩
 |c::t,u,[],h=>by cases c<;>simp[fits]at h
 |c ::t,u,d::l,h=>by
  cases c<;>simp only[cH,fits,aE,aA]at h
  all_goals
   obtain⟨a,b,h1,h2,h3,h4⟩:=PJ h.2
   exact⟨d::a,b,by rw[h1];rfl,by simp[fits,h.1,h2],h3,by simp[h4]⟩
theorem sB:∀{t:List pO} {l:List D},fits t l=true->l.length=t.length
 |[],[],_=>rfl
 |[],_::_,h=>by simp[fits]at h
 |c::t,[],h=>by cases c<;>simp[fits]at h
 |c::t,d::l,h=>by
  cases c<;>simp only[fits,aE,aA]at h
  all_goals simp[sB h.2]
theorem YL:∀{a b a' b':List D},a.length=b.length->eqs (a++a') (b++b')=(eqs a b&&eqs a' b')
 |[],[],_,_,_=>by simp[eqs]
 |x::a,y::b,a',b',h=>by
  simp only[cH,eqs]
  rw[YL (by simpa using h),Bool.and_assoc]
theorem GR{P:Program}{t:TypeId}{d:TypeDesc}(hd:P.underlying t=some d)(ha:Pp d=false){xs:Array Value}{o:Nat}{v:Value}(hv:xs[o]?=some v)(w:World):(part t xs o).run P w=.ok v w:=by
 unfold part
 rw[Sem.run_bind,Yr hd,LO hd,ha,Result.andThen_ok]
 simp[hv]
theorem Uf{P:Program}{t:TypeId}{d:TypeDesc}(hd:P.underlying t=some d)(ha:Pp d=true)(h0:0<P.cellsOf t)(xs:Array Value)(o:Nat)(w:World):
 (part t xs o).run P w=.ok (.agg (xs.extract o (o+P.cellsOf t))) w:=by
 unfold part
 rw[Sem.run_bind,Yr hd,LO hd,ha,Result.andThen_ok]
 simp only[if_true,Sem.run_bind,Ai h0,Result.andThen_ok,Sem.run_pure]
theorem pJ.extract{xs:Array Value}{o:Nat}{az:List D}{n:Nat}(h:pJ xs o az)(hn:az.length<=n):pJ (xs.extract o (o+n)) 0 az:=by
 intro j d hj
 have bg:=(List.getElem?_eq_some_iff.1 hj).1
 have:=h j d hj
 have hx:=(Array.getElem?_eq_some_iff.1 this).1
 simp only[bG,Array.getElem?_extract]
 rw[if_pos (by omega)]
 exact this
theorem pJ.left{xs:Array Value}{o:Nat}{a b:List D}(h:pJ xs o (a++b)):pJ xs o a:=λj d hj=>h j d (by rw[bI (List.getElem?_eq_some_iff.1 hj).1];exact hj)
theorem pJ.right{xs:Array Value}{o:Nat}{a b:List D}(h:pJ xs o (a++b)):pJ xs (o+a.length) b:=λj d hj=>by
 rw[fP];exact h (a.length+j) d (by rw[bJ (by omega)];simpa using hj)
def oi(t:TypeId)(m:Nat)(xs ys:Array Value)(o:Nat):Sem Bool:=do
 let a<-part t xs o
 let b<-part t ys o
 Op.equalIn m t a b
theorem Zbw{P:Program}{n m:Nat}(ih:∀t,ra P n t=true->P.cellsOf t=(lN P n t).length->0<P.cellsOf t->∀(xs ys:Array Value) (o:Nat) (az bs:List D) (w:World),fits (lN P n t) az=true->fits (lN P n t) bs=true->pJ xs o az->pJ ys o bs->
 (oi t m xs ys o).run P w=.ok (eqs az bs) w):
 ∀ (fs:List Field) (o:Nat) (az bs:List D) (xs ys:Array Value) (w:World),TW P (ra P n) (λu=>(lN P n u).length) fs o=true->fits (fs.flatMap λf=>lN P n f.type) az=true->fits (fs.flatMap λf=>lN P n f.type) bs=true->
  pJ xs o az->pJ ys o bs->(Op.eqFields m xs ys fs).run P w=.ok (eqs az bs) w
 |[],o,az,bs,xs,ys,w,_,ha,hb,_,_=>by
  have h1:=sB ha
  have h2:=sB hb
  simp at h1 h2
  subst h1;subst h2
  simp[Op.eqFields,eqs]
 |f ::fs,o,az,bs,xs,ys,w,ho,ha,hb,sa,sb=>by
  simp only[TW,aE]at ho
  obtain⟨⟨⟨⟨⟨h1,h2⟩,h3⟩,h4⟩,h5⟩,h6⟩:=ho
  have h2:=bE h2
  have h3:=bE h3
  have h4:0<(lN P n f.type).length:=lE h4
  simp only[List.flatMap_cons]at ha hb
  obtain⟨a1,a2,rfl,YM,YN,la⟩:=PJ ha
  obtain⟨b1,b2,rfl,YO,YP,lb⟩:=PJ hb
  have iR:=ih f.type h5 h3 (by omega) xs ys o a1 b1 w YM YO sa.left sb.left
  have wx:=Zbw ih fs (o+(lN P n f.type).length) a2 b2 xs ys w h6 YN YP (by rw[<-la];exact sa.right) (by rw[<-lb];exact sb.right)
  have gm:f.name≠ "_" :=by simpa using h1
  simp only[Op.eqFields,gm,ne_eq,not_false_eq_true,if_true,h2]
  unfold oi at iR
  rw[YL (by omega)]
  rw[Sem.run_bind]at iR⊢
  cases hp:(part f.type xs o).run P w with
  |halt x w1=>rw[hp]at iR;simp at iR
  |ok a w1=>
   rw[hp]at iR
   simp only[Result.andThen_ok,Sem.run_bind]at iR⊢
   cases hq:(part f.type ys o).run P w1 with
   |halt x w2=>rw[hq]at iR;simp at iR
   |ok b w2=>
    rw[hq]at iR
    simp only[Result.andThen_ok]at iR⊢
    rw[iR]
    simp only[Result.andThen_ok]
    cases he:eqs a1 b1 with
    |true=>simpa[he]using wx
    |false=>simp
theorem Zkj{P:Program}{n m:Nat}{e:TypeId}{k:Nat}(hk:P.cellsOf e=k)(hl:(lN P n e).length=k)(ih:∀(xs ys:Array Value) (o:Nat) (az bs:List D) (w:World),fits (lN P n e) az=true->fits (lN P n e) bs=true->pJ xs o az->pJ ys o bs->
 (oi e m xs ys o).run P w=.ok (eqs az bs) w):
 ∀ (len i:Nat) (az bs:List D) (xs ys:Array Value) (w:World),fits (cO len (lN P n e)).flatten az=true->fits (cO len (lN P n e)).flatten bs=true->pJ xs (i*k) az->pJ ys (i*k) bs->
  (do
   let r<-forIn (List.range' i len) ((none,()):Option Bool×Unit) λj _=>do
    let a<-part e xs (j*k)
    let b<-part e ys (j*k)
    let q<-Op.equalIn m e a b
    if(!q)=true then pure (ForInStep.done (some false,()))else pure (ForInStep.yield (none,()))
   match r.1 with
   |some a=>pure a
   |none=>pure true:Sem Bool).run P w=.ok (eqs az bs) w
 |0,i,az,bs,xs,ys,w,ha,hb,_,_=>by
  have h1:=sB ha
  have h2:=sB hb
  simp at h1 h2
  subst h1;subst h2
  simp[eqs]
 |len + 1,i,az,bs,xs,ys,w,ha,hb,sa,sb=>by
  simp only[List.replicate_succ,List.flatten_cons]at ha hb
  obtain⟨a1,a2,rfl,YM,YN,la⟩:=PJ ha
  obtain⟨b1,b2,rfl,YO,YP,lb⟩:=PJ hb
  have iR:=ih xs ys (i*k) a1 b1 w YM YO sa.left sb.left
  have wx:=Zkj hk hl ih len (i+1) a2 b2 xs ys w YN YP (by rw[bF];have:=sa.right;rwa [la,hl]at this) (by rw[bF];have:=sb.right;rwa [lb,hl]at this)
  unfold oi at iR
  rw[YL (by omega)]
  simp only[List.range'_succ,List.forIn_cons,Sem.run_bind]at iR⊢
  cases hp:(part e xs (i*k)).run P w with
  |halt x w1=>rw[hp]at iR;simp at iR
  |ok a w1=>
   rw[hp]at iR
   simp only[Result.andThen_ok]at iR⊢
   cases hq:(part e ys (i*k)).run P w1 with
   |halt x w2=>rw[hq]at iR;simp at iR
   |ok b w2=>
    rw[hq]at iR
    simp only[Result.andThen_ok]at iR⊢
    rw[iR]
    simp only[Result.andThen_ok]
    cases he:eqs a1 b1 with
    |true=>
     simp only[Sem.run_bind]at wx
     simpa[he]using wx
    |false=>simp
theorem Yx{P:Program}:∀(n:Nat) (t:TypeId) (m:Nat),n<=m->ra P n t=true->P.cellsOf t=(lN P n t).length->0<P.cellsOf t->∀(xs ys:Array Value) (o:Nat) (az bs:List D) (w:World),
 fits (lN P n t) az=true->fits (lN P n t) bs=true->pJ xs o az->pJ ys o bs->(oi t m xs ys o).run P w=.ok (eqs az bs) w
 |0,t,m,_,h,_,_,_,_,_,_,_,_,_,_,_,_=>by simp[ra]at h
 |n+1,t,0,hm,_,_,_,_,_,_,_,_,_,_,_,_,_=>by omega
 |n + 1,t,m+1,hm,h,hc,h0,xs,ys,o,az,bs,w,ha,hb,sa,sb=>by
  unfold ra at h
  split at h
  ·rename_i k hd
   simp only[lN,hd]at ha hb
   have h1:=sB ha;have h2:=sB hb
   obtain⟨x,rfl⟩:=List.length_eq_one_iff.1 h1
   obtain⟨y,rfl⟩:=List.length_eq_one_iff.1 h2
   simp only[fits,gA]at ha hb
   have hx:=sa 0 x rfl;have hy:=sb 0 y rfl
   rw[D.jZ ha]at hx⊢
   rw[D.jZ hb]at hy⊢
   simp only[sv,aB]at hx hy
   simp only[oi,Sem.run_bind,GR hd rfl hx,GR hd rfl hy,Result.andThen_ok,run_equalIn_int w m t k k _ _ hd,eqs,O4,gA]
  ·rename_i hd
   simp only[lN,hd]at ha hb
   have h1:=sB ha;have h2:=sB hb
   obtain⟨x,rfl⟩:=List.length_eq_one_iff.1 h1
   obtain⟨y,rfl⟩:=List.length_eq_one_iff.1 h2
   simp only[fits,gA]at ha hb
   have hx:=sa 0 x rfl;have hy:=sb 0 y rfl
   rw[D.j0 ha]at hx⊢
   rw[D.j0 hb]at hy⊢
   simp only[sv,aB]at hx hy
   simp only[oi,Sem.run_bind,GR hd rfl hx,GR hd rfl hy,Result.andThen_ok,run_equalIn_bool' w m t _ _ hd,eqs,O4,gA]
  ·rename_i hd
   simp only[lN,hd]at ha hb
   have h1:=sB ha;have h2:=sB hb
   obtain⟨x,rfl⟩:=List.length_eq_one_iff.1 h1
   obtain⟨y,rfl⟩:=List.length_eq_one_iff.1 h2
   simp only[fits,gA]at ha hb
   have hx:=sa 0 x rfl;have hy:=sb 0 y rfl
   cases x<;>simp[D.isStr]at ha
   cases y<;>simp[D.isStr]at hb
   rename_i s u
   simp only[sv,aB]at hx hy
   simp only[oi,Sem.run_bind,GR hd rfl hx,GR hd rfl hy,Result.andThen_ok,run_equalIn_string w m t _ _ hd,eqs,O4,gA,ByteArray.toList_mk]
   congr 1
   rw[eB];simp
  ·rename_i fs hd
   simp only[aE,Bool.not_eq_true']at h
   have hf:P.fieldsOf t=fs:=by simp[Program.fieldsOf,hd]
   have hl:=sB ha
   have pq:=sB hb
   simp only[lN,hd]at ha hb
   simp only[oi,Sem.run_bind,Uf hd rfl h0,Result.andThen_ok]
   rw[run_equalIn_struct w m t _ _ (by rw[hf];exact hd) h.1,hf]
   refine Zbw (n:=n) (λu hu hcu h0u xs ys o az bs w=>Yx n u m (by omega) hu hcu h0u xs ys o az bs w) fs.toList 0 az bs _ _ w h.2 ha hb (sa.extract (by omega)) (sb.extract (by omega))
  ·rename_i len e hd
   simp only[aE]at h
   obtain⟨⟨h1,h2⟩,h3⟩:=h
   have h1:=bE h1
   have h2:0<P.cellsOf e:=lE h2
   have hl:=sB ha
   have pq:=sB hb
   simp only[lN,hd]at ha hb
   simp only[oi,Sem.run_bind,Uf hd rfl h0,Result.andThen_ok]
   have:=Zkj (P:=P) (n:=n) (m:=m) (e:=e) rfl h1.symm (λxs ys o az bs w=>Yx n e m (by omega) h3 h1 h2 xs ys o az bs w) len 0 az bs (xs.extract o (o+P.cellsOf t)) (ys.extract o (o+P.cellsOf t)) w ha hb
    (by rw[fZ];exact sa.extract (by omega)) (by rw[fZ];exact sb.extract (by omega))
   rw[<-this]
   simp only[Op.equalIn,Sem.run_bind,run_underlying hd,Result.andThen_ok,Ai h2,Std.Legacy.Range.forIn_eq_forIn_range',Std.Legacy.Range.size,fT,Nat.add_sub_cancel,Nat.div_one]
   congr 1
   funext r w'
   obtain⟨f,u⟩:=r
   cases f<;>rfl
  ·cases h
theorem LF:∀{vs:List Value} {ds:List D},AU vs=some ds->ds.length=vs.length
 |[],ds,h=>by simp[AU]at h;subst h;rfl
 |v ::vs,ds,h=>by
  simp only[AU]at h
  split at h
  ·rename_i d l h1 h2
   simp at h;subst h
   simp[LF h2]
  ·cases h
theorem YQ{I:ab}{w:World}{z:List D}{zs:Array Value}{sz n m:Nat}(hz:z.length=sz)(hs:zs.size=sz)(hr:∀j v,zs[j]?=some v->fx I w (z.getD j .dead) v)(hm:n<=m):
 ij I w (cO n z) (madeCells zs (m*sz)) 0 sz:=by
 rw[sW]
 intro i hi
 have iz:i<n:=by simpa using hi
 have he:(cO n z).getD i []=z:=by simp[aV,iz]
 rw[he]
 refine⟨hz,?_⟩
 rw[tH]
 intro j hj
 have bg:i*sz+j<m*sz:=by
  have:=bD sz (show i+1<=m by omega)
  rw[bF]at this
  omega
 have YR:(i*sz+j)%sz=j:=by rw[Nat.add_comm,Nat.add_mul_mod_self_right,Nat.mod_eq_of_lt (by omega)]
 have Lr:j<zs.size:=by omega
 refine⟨zs[j],?_,hr j _ (Array.getElem?_eq_getElem Lr)⟩
 have hrg:(gB (m*sz))[i*sz+j]?=some (i*sz+j):=by rw[Array.getElem?_range,if_pos bg]
 simp only[madeCells,bG,Array.getElem?_map,hrg,Option.map_some,hs,YR]
 simp[Lr]
theorem YS{z:List D}{u:Value}(h:AU u.cells.toList=some z)(hp:z.all D.plain=true)(c:Ctx)(w:World):∀j v,u.cells[j]?=some v->fx c.I w (z.getD j .dead) v:=by
 intro j v hv
 have hr:=I1 h c w
 have hl:=hr.length
 have h1:u.cells.toList[j]?=some v:=by simpa using hv
 have bg:j<z.length:=by rw[hl];exact(List.getElem?_eq_some_iff.1 h1).1
 refine dd.plain ?_ ((DH.1 hr).2 j v h1)
 have hm:z.getD j .dead∈z:=by
  simp only[aV,aI bg,aR]
  exact eT _
 exact List.all_eq_true.1 hp _ hm
theorem TO{c:Ctx}{w:World}{k:Nat}{e:TypeId}{sz cap:Nat}{es:ah}{arr:Array Value}(h1:es.l.length<=cap)(h2:cap<=maxLen)(h3:cap*sz=arr.size):
 Rep (c.add k ⟨false,e,sz,es⟩ w.heap.size) (w.alloc (.cells arr e)) (.all k) (.slice (some ⟨w.heap.size,0,none⟩) es.l.length cap):=by
 refine⟨_,(Ctx.iU _ _ _ _).1,rfl,.inr ⟨by simp[Ctx.add],cap,arr,?_,h1,h2,?_,h3⟩⟩
 ·rw[(Ctx.iU _ _ _ _).2]
 ·rw[(Ctx.iU _ _ _ _).2];exact TZ w _
theorem qv{P:Program}{T:e7}(hT:jb P T){t:TypeId}{kl kc:IntKind}{n m:Int}{R:Rows}{K:D->Rows->Prop}(h:uw T t n m R K):
 ∃row val,K val (R++[some row])/\∀c w,Pt P (Instr.makeSlice t (.int kl n) (.int kc m)) w c R.length row val:=by
 unfold uw at h
 split at h
 ·rename_i e _ _ _ _ _ _ ht
  have hk:=mm hT ht
  simp only at hk
  split at h
  ·rename_i kk sz lg cs z q he
   simp only[de,aE,decide_eq_true_eq,JZ]at h
   obtain⟨⟨⟨⟨h0,hz⟩,hp⟩,g0,g1,g2,g3⟩,h⟩:=h
   have h0:0<sz:=lE h0
   have hz:=bE hz
   obtain⟨i,u,hi,hu,wI,hs,hb,hc,hzero⟩:=GI hT he
   refine⟨_,_,h,λc w=>?_⟩
   have hr:=run_make (P:=P) w t e i u hk.1 hi hu kl kc n m g0 g1 (by rw[hb];omega) g2
   rw[hs]at hr
   have tu:u.cells.size=sz:=by have:=LF wI;simp at this;omega
   refine⟨_,_,hr,⟨h0,?_⟩,λ_ _=>?_⟩
   ·simp only[aA,if_false,ah.uy]
    exact YQ (n:=n.toNat) (m:=m.toNat) hz tu (YS wI hp c w) (by omega)
   ·have:=TO (c:=c) (w:=w) (k:=R.length) (e:=e) (sz:=sz) (cap:=m.toNat) (es:=ah.EW e n.toNat z) (arr:=madeCells u.cells (m.toNat*sz)) (by rw[ah.uy];simp;omega) (by unfold maxLen;omega) (by simp[madeCells])
    rw[ah.uy]at this
    simpa using this
  ·exact h.elim
 ·exact h.elim
theorem xv{c:Ctx}{w:World}{d:D}{v:Value}(h:dd c w d v):dd c w d.PK v:=by
 cases d with
 |sl sz es fr=>
  obtain⟨a,cap,hv,hc,h⟩:=h
  refine⟨a,cap,hv,hc,?_⟩
  rcases h with h|⟨b,off,arr,ty,fz,h1,h2,h3,h4⟩
  ·exact .inl h
  ·exact .inr ⟨b,off,arr,ty,fz,h1,h2,(λe=>by cases e),h4⟩
 |_=>exact h
theorem Zcf{c:Ctx}{w:World}:∀{ds:List D} {vs:List Value},je c w ds vs->je c w (G2 ds) vs
 |[],[],_=>trivial
 |d::ds,v::vs,h=>⟨xv h.1,Zcf h.2⟩
 |[],_::_,h=>h.elim
 |_::_,[],h=>h.elim
theorem YT{n len:Nat}(h0:0<n){ev:Operand->D}:∀{parts:List (Nat×Operand)} {es:List (List D)} {K:List (List D)->Prop},es.length=len->EY n len ev parts es K->
 ∃ iQ,K iQ/\iQ.length=len/\∀c w (ρ:Operand->Value) (cells:Array Value),cells.size=len*n->ij c.I w es cells 0 n->(∀p∈parts,Rep c w (ev p.2) (ρ p.2))->
  ∃dr,Instr.fill (λi=>some (i*n,n)) cells (parts.map λp=>(p.1,ρ p.2))=some dr/\dr.size=len*n/\ij c.I w iQ dr 0 n
 |[],es,K,hl,h=>⟨es,h,hl,λc w ρ cells hs he _=>⟨cells,rfl,hs,he⟩⟩
 |(i,x)::ps,es,K,hl,h=>by
  unfold EY at h
  simp only[de,aE]at h
  obtain⟨⟨⟨⟨hv,hp⟩,hn⟩,hi⟩,h⟩:=h
  have hn:=bE hn
  have hi:i<len:=lE hi
  obtain⟨iQ,hK,pq,hr⟩:=YT h0 (by simpa using hl) h
  refine⟨iQ,hK,pq,λc w ρ cells hs he kK=>?_⟩
  have hx:=Zcf (Rep.cells hv (kK (i,x) (by simp)))
  have hlen:(ρ x).cells.size=n:=by rw[<-hn,hx.length];simp
  have kC:i*n+n<=cells.size:=by
   have:=bD n (show i+1<=len by omega)
   rw[bF]at this
   omega
  have hw:=Z1g (c:=c) (w:=w) (es:=es) (arr:=cells.toList) (off:=0) (i:=i) (by simpa using he) (by omega) (by omega) hx hp (by simpa using kC)
  have PL:kJ (es.getD i []) 0 (G2 (ev x).cells)=G2 (ev x).cells:=by
   have FK:=(sW.1 he i (by omega)).1
   apply fY
   intro k
   rw[GW (by omega)]
   by_cases hk:k<(G2 (ev x).cells).length
   ·rw[if_pos (by omega)];simp
   ·rw[if_neg (by omega),aJ (by omega),aJ (by omega)]
  rw[PL]at hw
  have kb:(pd cells.toList (i*n+0) (ρ x).cells.toList).toArray=(ρ x).cells.zipIdx.foldl (λcs (x:Value×Nat)=>cs.setIfInBounds (i*n+x.2) x.1) cells:=by
   rw[aB,<-Zi7 (ρ x) (i*n) cells]
  rw[kb]at hw
  obtain⟨dr,k1,k2,k3⟩:=hr c w ρ _ (by rw[<-kb];simp[Up,hs]) hw (λp hp=>kK p (by simp[hp]))
  refine⟨dr,?_,k2,k3⟩
  simp only[fG,Instr.fill]
  rw[if_neg (by simp;omega)]
  exact k1
theorem Zcp{n len:Nat}{ev:Operand->D}:∀{parts:List (Nat×Operand)} {es:List (List D)} {K:List (List D)->Prop},EY n len ev parts es K->
 ∃iQ,K iQ/\∀(ig:Operand->D) (K2:List (List D)->Prop),(∀p∈parts,ig p.2=ev p.2)->K2 iQ->EY n len ig parts es K2
 |[],es,K,h=>⟨es,h,λig K2 _ h2=>h2⟩
 |(i,x)::ps,es,K,h=>by
  unfold EY at h
  simp only[de]at h
  obtain⟨iQ,h1,h2⟩:=Zcp h.2
  refine⟨iQ,h1,λig K2 he hk=>?_⟩
  unfold EY
  rw[he (i,x) (by simp)]
  simp only[de]
  exact⟨h.1,h2 ig K2 (λp hp=>he p (by simp[hp])) hk⟩
theorem Zlo{T:e7}{t:TypeId}{len:Nat}{parts:List (Nat×Operand)}{ev:Operand->D}{R:Rows}{K:D->Rows->Prop}(h:LX T t len parts ev R K):
 ∃val,K val R/\∀(ig:Operand->D) (R2:Rows),(∀p∈parts,ig p.2=ev p.2)->LX T t len parts ig R2 λd R'=>d=val/\R'=R2:=by
 unfold LX at h⊢
 split at h
 ·split at h
  ·simp only[de]at h⊢
   obtain⟨h0,h⟩:=h
   obtain⟨iQ,hK,hd⟩:=Zcp h
   cases len with
   |zero=>exact⟨_,hK,λig R2 ej=>⟨h0,hd ig _ ej (by simp)⟩⟩
   |succ m=>exact⟨_,hK,λig R2 ej=>⟨h0,hd ig _ ej (by simp)⟩⟩
  ·exact h.elim
 ·exact h.elim
theorem Zsx{P:Program}{T:e7}(hT:jb P T){t:TypeId}{len:Nat}{parts:List (Nat×Operand)}{ev:Operand->D}{R:Rows}{K:D->Rows->Prop}(h:LX T t len parts ev R K):
    ∃val,K val R/\ ∀c w (ρ:Operand->Value),c.base<=w.heap.size->(∀p∈parts,Rep c w (ev p.2) (ρ p.2))-> ∃u arr ty,(Instr.buildSlice t len (parts.map λp=>(p.1,ρ p.2)).toArray).run P w= .ok u (w.alloc (.cells arr ty))/\(Mem c w->Rep (c.ff w.heap.size) (w.alloc (.cells arr ty)) val u):=by
  unfold LX at h
  split at h
  . rename_i e _ _ _ _ _ _ ht
    have hk:=mm hT ht
    simp only at hk
    split at h
    . rename_i kk sz lg cs z q he
      simp only[de,aE]at h
      obtain⟨⟨⟨⟨h0,hz⟩,hle⟩,hp⟩,h⟩:=h
      have h0:0<sz:=lE h0
      have hz:=bE hz
      have hle:=lE hle
      obtain⟨i,u,hi,hu,wI,hs,hb,hc,hzero⟩:=GI hT he
      obtain⟨iQ,hK,pq,hr⟩:=YT h0 (by simp) h
      have tu:u.cells.size=sz:=by have:=LF wI;simp at this;omega
      have main: ∀c w (ρ:Operand->Value),(∀p∈parts,Rep c w (ev p.2) (ρ p.2))-> ∃dr,(Instr.buildSlice t len (parts.map λp=>(p.1,ρ p.2)).toArray).run P w= .ok (.slice (some ⟨w.heap.size,0,none⟩) len len) (w.alloc (.cells dr e))/\ij c.I w iQ dr 0 sz:=by
        intro c w ρ kK
        have FK:=YQ (I:=c.I) (w:=w) hz tu (YS wI hp c w) (aX len)
        obtain⟨dr,k1,k2,k3⟩:=hr c w ρ (madeCells u.cells (len*sz)) (by simp [madeCells]) FK kK
        refine⟨dr,?_,k3⟩
        have I3: ¬len*sz>2^24:=by omega
        have By:0<P.cellsOf e:=by omega
        unfold Instr.buildSlice
        simp only[Sem.run_bind,run_underlying hk.1,Result.andThen_ok,Ai By,hc,Sem.run_ite,I3,if_false,Sem.run_pure]
        by_cases DF:len*sz=0
        . have mQ:Instr.fill (λi=>some (i*sz,sz)) ((gB (len*sz)).map λx=>(#[]:Array Value)[x%(#[]:Array Value).size]!) (parts.map λp=>(p.1,ρ p.2))=some dr:=by
            rw[<-k1];congr 1
            rw[DF];simp [madeCells]
          simp only[DF,if_true]at mQ⊢
          rw[mQ]
          simp only[newRow,Sem.run_bind,run_newObj,Result.andThen_ok,Sem.run_pure]
          rfl
        . simp only[DF,if_false,hzero,Result.andThen_ok]
          rw[show Instr.fill (λi=>some (i*sz,sz)) ((gB (len*sz)).map λx=>u.cells[x%u.cells.size]!) (parts.map λp=>(p.1,ρ p.2))=some dr from k1]
          simp only[newRow,Sem.run_bind,run_newObj,Result.andThen_ok,Sem.run_pure]
          rfl
      cases len with
      | zero=>
        refine⟨_,hK,λc w ρ _ kK=> ?_⟩
        obtain⟨dr,h1,_⟩:=main c w ρ kK
        exact⟨_,dr,e,h1,λ_=>⟨_,rfl,λx hx=>by cases hx;exact Nat.lt_of_lt_of_le (Nat.lt_succ_self _) (Nat.le_max_right _ _)⟩⟩
      | succ m=>
        refine⟨_,hK,λc w ρ jc kK=> ?_⟩
        obtain⟨dr,h1,h2⟩:=main c w ρ kK
        refine⟨_,dr,e,h1,λhm=> ?_⟩
        refine⟨some ⟨w.heap.size,0,none⟩,m+1,by rw[ah.pK,pq],by rw[ah.pK,pq];exact aX _, .inr ⟨w.heap.size,0,dr,e,(0,0),rfl, .inr rfl,λ_=>jc,TZ w _,?_⟩⟩
        rw[ah.pK]
        exact nh (Ud hm _).I _ _ _ _ h2
    . exact h.elim
  . exact h.elim
theorem Zlw{P:Program}{T:e7}(hT:jb P T){t:TypeId}{len:Nat}{parts:List (Nat×Operand)}{ev:Operand->D}{R:Rows}{K:D->Rows->Prop}(h:YU T t len parts ev R K):
    ∃row val,K val (R++[some row])/\ ∀c w (ρ:Operand->Value),(∀p∈parts,Rep c w (ev p.2) (ρ p.2))->Pt P (Instr.buildSlice t len (parts.map λp=>(p.1,ρ p.2)).toArray) w c R.length row val:=by
  unfold YU at h
  split at h
  . rename_i e _ _ _ _ _ _ ht
    have hk:=mm hT ht
    simp only at hk
    split at h
    . rename_i kk sz lg cs z q he
      simp only[de,aE]at h
      obtain⟨⟨⟨⟨h0,hz⟩,hle⟩,hp⟩,h⟩:=h
      have h0:0<sz:=lE h0
      have hz:=bE hz
      have hle:=lE hle
      obtain⟨i,u,hi,hu,wI,hs,hb,hc,hzero⟩:=GI hT he
      obtain⟨iQ,hK,pq,hr⟩:=YT h0 (by simp) h
      rw[JZ]at hK
      have tu:u.cells.size=sz:=by have:=LF wI;simp at this;omega
      have main: ∀c w (ρ:Operand->Value),(∀p∈parts,Rep c w (ev p.2) (ρ p.2))-> ∃dr,(Instr.buildSlice t len (parts.map λp=>(p.1,ρ p.2)).toArray).run P w= .ok (.slice (some ⟨w.heap.size,0,none⟩) len len) (w.alloc (.cells dr e))/\ij c.I w iQ dr 0 sz/\dr.size=len*sz:=by
        intro c w ρ kK
        have FK:=YQ (I:=c.I) (w:=w) hz tu (YS wI hp c w) (aX len)
        obtain⟨dr,k1,k2,k3⟩:=hr c w ρ (madeCells u.cells (len*sz)) (by simp [madeCells]) FK kK
        refine⟨dr,?_,k3,k2⟩
        have I3: ¬len*sz>2^24:=by omega
        have By:0<P.cellsOf e:=by omega
        unfold Instr.buildSlice
        simp only[Sem.run_bind,run_underlying hk.1,Result.andThen_ok,Ai By,hc,Sem.run_ite,I3,if_false,Sem.run_pure]
        by_cases DF:len*sz=0
        . have mQ:Instr.fill (λi=>some (i*sz,sz)) ((gB (len*sz)).map λx=>(#[]:Array Value)[x%(#[]:Array Value).size]!) (parts.map λp=>(p.1,ρ p.2))=some dr:=by
            rw[<-k1];congr 1
            rw[DF];simp [madeCells]
          simp only[DF,if_true]at mQ⊢
          rw[mQ]
          simp only[newRow,Sem.run_bind,run_newObj,Result.andThen_ok,Sem.run_pure]
          rfl
        . simp only[DF,if_false,hzero,Result.andThen_ok]
          rw[show Instr.fill (λi=>some (i*sz,sz)) ((gB (len*sz)).map λx=>u.cells[x%u.cells.size]!) (parts.map λp=>(p.1,ρ p.2))=some dr from k1]
          simp only[newRow,Sem.run_bind,run_newObj,Result.andThen_ok,Sem.run_pure]
          rfl
      refine⟨_,_,hK,λc w ρ kK=> ?_⟩
      obtain⟨dr,h1,h2,h3⟩:=main c w ρ kK
      refine⟨_,dr,h1,⟨h0,?_⟩,λ_ _=> ?_⟩
      . simp only[aA,if_false,ah.pK];exact h2
      . have:=TO (c:=c) (w:=w) (k:=R.length) (e:=e) (sz:=sz) (cap:=len) (es:=ah.PM e iQ) (arr:=dr) (by rw[ah.pK,pq];exact aX _) (by
          have:len*1<=len*sz:=Nat.mul_le_mul_left len h0
          unfold maxLen;omega) h3.symm
        rw[ah.pK,pq]at this
        exact this
    . exact h.elim
  . exact h.elim

