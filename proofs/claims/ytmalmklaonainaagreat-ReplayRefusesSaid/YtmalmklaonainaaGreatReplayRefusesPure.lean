import Derived.Test.YtmalmklaonainaaGreatReplayRefusesOps
import Derived.Lib.Strings
set_option linter.all false
namespace Go.GD
open Go
theorem Zet(a b:List UInt8):(ByteArray.mk a.toArray)++(ByteArray.mk b.toArray)=ByteArray.mk (a++b).toArray:=by
 rw[ByteArray.ext_iff]
 simp
theorem Rep.int{c:Ctx}{w:World}{k:IntKind}{n:Int}{v:Value}:Rep c w (.int k n) v↔v= .int k n:=Iff.rfl
theorem Rep.bool{c:Ctx}{w:World}{b:Bool}{v:Value}:Rep c w (.bool b) v↔v= .bool b:=Iff.rfl
theorem Rep.str{c:Ctx}{w:World}{s:List UInt8}{v:Value}:Rep c w (.str s) v↔v= .string ⟨s.toArray⟩:=Iff.rfl
theorem Qsn{P:Program}{op:BinOp}{t:TypeId}{x y:Operand}{k k':IntKind}{a b:Int}(w:World):(eqGuard op t x y (.int k a) (.int k' b)).run P w= .ok () w:=by
 cases op<;>rfl
theorem Zj{P:Program}{op:BinOp}{t:TypeId}{x y:Operand}{a b:ByteArray}(w:World):(eqGuard op t x y (.string a) (.string b)).run P w= .ok () w:=by
 cases op<;>rfl
theorem Qy9{P:Program}{op:BinOp}{t:TypeId}{x y:Operand}{a b:Bool}(w:World):(eqGuard op t x y (.bool a) (.bool b)).run P w= .ok () w:=by
 cases op<;>rfl
theorem xaH{P:Program}{op:BinOp}{t:TypeId}{k:IntKind}{a b:Int}{K:D->Prop}(hop:op≠ .shl/\op≠ .shr)(h:Zki op k a b K):
   ∃d,K d/\ ∀w,∃u,(binOp op t (.int k a) (.int k b)).run P w= .ok u w/\ ∀c,Rep c w d u:=by
 cases op<;>simp only[Zki,Q08,decide_eq_true_eq]at h
 case add=>exact⟨_,h,λw=>⟨_,by simp only[binOp,ne_eq,not_true_eq_false,if_false,Op.intArith,Sem.run_pure];try rfl,λc=>rfl⟩⟩
 case sub=>exact⟨_,h,λw=>⟨_,by simp only[binOp,ne_eq,not_true_eq_false,if_false,Op.intArith,Sem.run_pure];try rfl,λc=>rfl⟩⟩
 case mul=>exact⟨_,h,λw=>⟨_,by simp only[binOp,ne_eq,not_true_eq_false,if_false,Op.intArith,Sem.run_pure];try rfl,λc=>rfl⟩⟩
 case quo=>exact⟨_,h.2,λw=>⟨_,by simp only[binOp,ne_eq,not_true_eq_false,if_false,Op.intDiv,h.1,Sem.run_pure];try rfl,λc=>rfl⟩⟩
 case rem=>exact⟨_,h.2,λw=>⟨_,by simp only[binOp,ne_eq,not_true_eq_false,if_false,Op.intDiv,h.1,Sem.run_pure];try rfl,λc=>rfl⟩⟩
 case and=>exact⟨_,h,λw=>⟨_,by simp only[binOp,ne_eq,not_true_eq_false,if_false,Op.intBits,Sem.run_pure];try rfl,λc=>rfl⟩⟩
 case or=>exact⟨_,h,λw=>⟨_,by simp only[binOp,ne_eq,not_true_eq_false,if_false,Op.intBits,Sem.run_pure];try rfl,λc=>rfl⟩⟩
 case xor=>exact⟨_,h,λw=>⟨_,by simp only[binOp,ne_eq,not_true_eq_false,if_false,Op.intBits,Sem.run_pure];try rfl,λc=>rfl⟩⟩
 case andNot=>exact⟨_,h,λw=>⟨_,by simp only[binOp,ne_eq,not_true_eq_false,if_false,Op.intBits,Sem.run_pure];try rfl,λc=>rfl⟩⟩
 case eql=>exact⟨_,h,λw=>⟨_,by simp only[binOp,ne_eq,not_true_eq_false,if_false,Op.intCmp,Sem.run_pure];try rfl,λc=>rfl⟩⟩
 case neq=>exact⟨_,h,λw=>⟨_,by simp only[binOp,ne_eq,not_true_eq_false,if_false,Op.intCmp,Sem.run_pure];try rfl,λc=>rfl⟩⟩
 case lss=>exact⟨_,h,λw=>⟨_,by simp only[binOp,ne_eq,not_true_eq_false,if_false,Op.intCmp,Sem.run_pure];try rfl,λc=>rfl⟩⟩
 case leq=>exact⟨_,h,λw=>⟨_,by simp only[binOp,ne_eq,not_true_eq_false,if_false,Op.intCmp,Sem.run_pure];try rfl,λc=>rfl⟩⟩
 case gtr=>exact⟨_,h,λw=>⟨_,by simp only[binOp,ne_eq,not_true_eq_false,if_false,Op.intCmp,Sem.run_pure];try rfl,λc=>rfl⟩⟩
 case geq=>exact⟨_,h,λw=>⟨_,by simp only[binOp,ne_eq,not_true_eq_false,if_false,Op.intCmp,Sem.run_pure];try rfl,λc=>rfl⟩⟩
theorem Zdn{P:Program}{t:TypeId}{k k':IntKind}{a b:Int}(hb:0<=b)(w:World):
   (binOp .shl t (.int k a) (.int k' b)).run P w= .ok (.int k (ishl k a b)) w/\(binOp .shr t (.int k a) (.int k' b)).run P w= .ok (.int k (ishr k a b)) w:=by
 have: ¬b<0:=by omega
 constructor<;>(simp only[binOp];simp [Op.shift,this,ishl,ishr])
theorem qaI{P:Program}{op:BinOp}{t:TypeId}{a b:List UInt8}{K:D->Prop}
   (h:match op with
     | .add=>cand (decide (a.length+b.length<=maxLen)) (K (.str (a++b)))
     | .eql=>K (.bool (decide (a=b)))
     | .neq=>K (.bool (!decide (a=b)))
     |_=>False):
   ∃d,K d/\ ∀w,∃u,(binOp op t (.string ⟨a.toArray⟩) (.string ⟨b.toArray⟩)).run P w= .ok u w/\ ∀c,Rep c w d u:=by
 cases op<;>simp only[Q08,decide_eq_true_eq]at h
 case add=>
   refine⟨_,h.2,λw=>⟨_,?_,λc=>rfl⟩⟩
   have hl: ¬(((a.toArray.size+b.toArray.size:Nat):Int)>IntKind.i64.max):=by
     have:=h.1
     unfold maxLen at this
     simp only[List.size_toArray,IntKind.max,IntKind.signed,IntKind.bits,if_true]
     omega
   simp only[binOp]
   simp only[Op.stringOp,ByteArray.size,hl,if_false,Sem.run_pure,Zet]
 case eql=>
   refine⟨_,h,λw=>⟨_,?_,λc=>rfl⟩⟩
   simp only[binOp]
   simp only[Op.stringOp,Sem.run_pure,ByteArray.toList_mk,show(a==b)=decide (a=b) from by rw[Bool.eq_iff_iff];simp]
   try rfl
 case neq=>
   refine⟨_,h,λw=>⟨_,?_,λc=>rfl⟩⟩
   simp only[binOp]
   simp only[Op.stringOp,Sem.run_pure,ByteArray.toList_mk,show(a==b)=decide (a=b) from by rw[Bool.eq_iff_iff];simp]
   try rfl
def Yld(P:Program)(x:Sem Value)(w:World)(c:Ctx)(d:D):Prop:= ∃u,x.run P w= .ok u w/\Rep c w d u
theorem Q23{P:Program}{T:Tab}(hT:Q52 P T){t:TypeId}{k:TK}{a b:Nat}{cs:List CTy}{z:Option (List D)}{e:Bool}(h:T.get t=some ⟨k,a,b,cs,z,e⟩):
   match k with
   | .int j=>P.underlying t=some (.int j)
   | .bool=>P.underlying t=some .bool
   | .string=>P.underlying t=some .string
   | .slice u n=>P.underlying t=some (.slice u)/\P.cellsOf u=n
   | .struct fs=> ∃gs,P.underlying t=some (.struct gs)/\fs=gs.toList.map λf=>(f.offset,f.type,P.cellsOf f.type)
   | .array m u n=>P.underlying t=some (.array m u)/\P.cellsOf u=n
   | .other=>True:=by
 obtain⟨i,hi,hs,hb,hl,hk,_⟩:=Qc4 (hT.get h)
 simp only at hk
 unfold Qyr at hk
 split at hk<;>(subst hk;simp_all)
theorem zaI{P:Program}{T:Tab}(hT:Q52 P T){s d:TypeId}{x:D}{K:D->Prop}(h:Z82 T s d x K):
   ∃val,K val/\ ∀c w v,Rep c w x v->Yld P (convert s d v) w c val:=by
 unfold Z82 at h
 split at h
 . rename_i k1 _ _ _ _ _ k2 _ _ _ _ _ hs hd
   have h1:=Q23 hT hs
   have h2:=Q23 hT hd
   simp only at h1 h2
   cases x<;>simp only at h
   exact⟨_,h,λc w v hv=>⟨_,by rw[Rep.int.1 hv];simp only[convert,Sem.run_bind,run_underlying h1,run_underlying h2,Result.andThen_ok,Conv.intToInt,Sem.run_pure],rfl⟩⟩
 . rename_i hs hd
   have h1:=Q23 hT hs
   have h2:=Q23 hT hd
   simp only at h1 h2
   cases x<;>simp only at h
   exact⟨_,h,λc w v hv=>⟨_,by rw[Rep.str.1 hv];simp only[convert,Sem.run_bind,run_underlying h1,run_underlying h2,Result.andThen_ok,Sem.run_pure],rfl⟩⟩
 . exact h.elim
theorem Qyw{P:Program}{T:Tab}(hT:Q52 P T){s:TypeId}{f o:Nat}{q:TypeId×Nat}(h:Qtn T s f=some (o,q)):
   ∃fs fd,P.underlying s=some (.struct fs)/\fs[f]? =some fd/\fd.offset=o/\fd.type=q.1/\P.cellsOf fd.type=q.2:=by
 unfold Qtn at h
 split at h
 . rename_i fs _ _ _ _ _ ht
   obtain⟨i,hi,hs,hb,hl,hk,_⟩:=Qc4 (hT.get ht)
   simp only at hk
   unfold Qyr at hk
   split at hk<;>try(cases hk;done)
   rename_i gs hd
   simp only[TK.struct.injEq]at hk
   subst hk
   simp only[List.getElem?_map,Option.map_eq_some_iff,Prod.mk.injEq,Array.getElem?_toList]at h
   obtain⟨fd,h1,h2,h3⟩:=h
   exact⟨gs,fd,hd,h1,h2,by rw[<-h3],by rw[<-h3]⟩
 . cases h
theorem Zbh{P:Program}{t:TypeId}(h:0<P.cellsOf t): ∃i,P.info? t=some i:=by
 unfold Program.cellsOf at h
 cases hi:P.info? t with
 |none=>simp [hi]at h
 |some i=>exact⟨i,rfl⟩
theorem Qem{P:Program}{t:TypeId}(h:0<P.cellsOf t)(w:World):(sizeOf t).run P w= .ok (P.cellsOf t) w:=by
 obtain⟨i,hi⟩:=Zbh h
 exact run_sizeOf w hi
theorem Z49{P:Program}{s:TypeId}{fs:Array Field}{f:Nat}{fd:Field}(hs:P.underlying s=some (.struct fs))(hf:fs[f]? =some fd)(h0:0<P.cellsOf fd.type)(b o:Nat)(w:World):
   (Instr.fieldAt s (.pointer (some ⟨b,o,none⟩)) f).run P w= .ok (.pointer (some ⟨b,o+fd.offset,none⟩)) w:=by
 have h1: ¬P.cellsOf fd.type=0:=by omega
 simp only[Instr.fieldAt,Sem.run_bind,run_underlying hs,Result.andThen_ok,hf,Instr.sureAddr,Sem.run_pure,fieldPlace,Qem h0,Sem.run_ite,h1,if_false,Qks]
theorem Zny{P:Program}{T:Tab}(hT:Q52 P T){t:TypeId}{x:D}{isC:Bool}{n:Int}{k:IntKind}{R:Rows}{K:D->Rows->Prop}(h:Qu6 T t x isC n R K):
    ∃val,K val R/\ ∀c w v,Mem c w->Q7p c R->Rep c w x v->Yld P (Instr.indexAt t v (.int k n)) w c val:=by
  unfold Qu6 at h
  split at h
  . rename_i e esz _ _ _ _ _ ht
    have hk:=Q23 hT ht
    simp only at hk
    obtain⟨hu,hsz⟩:=hk
    have slc: ∀(b o len cap:Nat) (w:World),0<esz->0<=n->n<len->(Instr.indexAt t (.slice (some ⟨b,o,none⟩) len cap) (.int k n)).run P w= .ok (.pointer (some ⟨b,o+n.toNat*esz,none⟩)) w:=by
      intro b o len cap w h0 h1 h2
      simp only[Instr.indexAt,asIntOf,Sem.run_bind,Sem.run_pure,Result.andThen_ok,run_underlying hu,Sem.run_ite,h1,h2,and_self,if_true,Qem (hsz▸h0),hsz,Qks]
    cases x<;>simp only[Q08,aE,decide_eq_true_eq,<-Els.len_l]at h
    case sl sz es fr=>
      obtain⟨⟨⟨h1,h0⟩,h2,h3⟩,h⟩:=h
      have h1:=bE h1
      have h0:0<esz:=lE h0
      subst h1
      refine⟨_,h,λc w v hm hA hv=> ?_⟩
      obtain⟨a,cap,hv,hc,hes⟩:=hv
      rcases hes with hes|⟨b,off,arr,ty,fz,ha,hI,hf,hh,hE⟩
      . rw[hes]at h3;simp at h3;omega
      . subst ha;subst hv
        refine⟨_,slc b off _ _ w h0 h2 h3,b,off,arr,ty,fz,by simp,hI,by omega,hh,hE⟩
    case all r=>
      split at h
      . rename_i box ty sz es hR
        obtain⟨⟨⟨h1,h0⟩,h2,h3⟩,h⟩:=h
        have h1:=bE h1
        have h0:0<esz:=lE h0
        subst h1
        refine⟨_,h,λc w v hm hA hv=> ?_⟩
        obtain⟨row,g1,g2,hv⟩:=hv
        have:=hA r row _ g1 hR
        subst this
        rcases hv with⟨hV,a,hv,_⟩|⟨hV,cap,arr,hv,g3,g4,g5,g6⟩
        . have:=(hm.virt g1 hV).2.1
          simp only at this
          rw[this]at h3
          simp at h3;omega
        . subst hv
          exact⟨_,slc _ 0 _ _ w h0 h2 h3,_,g1,hV,by simp only;omega,by simp⟩
      . exact h.elim
    case own r o m=>
      split at h
      . rename_i box ty sz es hR
        obtain⟨⟨⟨h1,h0⟩,h2,h3⟩,h⟩:=h
        have h1:=bE h1
        have h0:0<esz:=lE h0
        subst h1
        refine⟨_,h,λc w v hm hA hv=> ?_⟩
        obtain⟨row,g1,g2,g5,hv⟩:=hv
        have:=hA r row _ g1 hR
        subst this
        simp only at*
        rcases hv with⟨g7,_⟩|⟨hV,cap,arr,g3,g4,g6,hv,g7⟩
        . omega
        . subst hv
          exact⟨_,slc _ _ _ _ w h0 h2 h3,_,g1,hV,by simp only;omega,by simp [Nat.add_mul]⟩
      . exact h.elim
  . rename_i len e esz _ _ _ _ _ ht
    have hk:=Q23 hT ht
    simp only at hk
    obtain⟨hu,hsz⟩:=hk
    simp only[Q08,aE,decide_eq_true_eq]at h
    obtain⟨⟨h0,h2,h3⟩,h⟩:=h
    have h0:0<esz:=lE h0
    have arrAt: ∀(b o:Nat) (w:World),(Instr.indexAt t (.pointer (some ⟨b,o,none⟩)) (.int k n)).run P w= .ok (.pointer (some ⟨b,o+n.toNat*esz,none⟩)) w:=by
      intro b o w
      simp only[Instr.indexAt,asIntOf,Sem.run_bind,Sem.run_pure,Result.andThen_ok,run_underlying hu,Instr.sureAddr,Sem.run_ite,h2,h3,and_self,if_true,Qem (hsz▸h0),hsz,Qks]
    cases x<;>simp only at h
    case ptr r i off=>
      have plainly:K (.ptr r i (off+n.toNat*esz)) R-> ∃val,K val R/\ ∀c w v,Mem c w->Q7p c R->Rep c w (.ptr r i off) v->Yld P (Instr.indexAt t v (.int k n)) w c val:=λh=>
        ⟨_,h,λc w v hm hA hv=>by
          obtain⟨row,g1,gV,g2,hv⟩:=hv
          subst hv
          exact⟨_,arrAt _ _ w,row,g1,gV,g2,by simp [Nat.add_assoc]⟩⟩
      have arr1: ∀kk,Nat.beq esz 1=true->K (.pa r i off len kk n.toNat) R-> ∃val,K val R/\ ∀c w v,Mem c w->Q7p c R->Rep c w (.ptr r i off) v->Yld P (Instr.indexAt t v (.int k n)) w c val:=λkk h1 h=>
        ⟨_,h,λc w v hm hA hv=>by
          obtain⟨row,g1,gV,g2,hv⟩:=hv
          have h1:=bE h1
          subst hv
          exact⟨_,arrAt _ _ w,by omega,row,g1,gV,g2,by simp [Nat.add_assoc,h1]⟩⟩
      cases isC with
      |true=>exact plainly h
      | false=>
        simp only at h
        split at h
        . exact arr1 _ h.1 h.2
        . exact arr1 _ h.1 h.2
        . exact plainly h
    case iptr sz es i off=>
      refine⟨_,h,λc w v hm hA hv=> ?_⟩
      obtain⟨b,o,arr,ty,fz,hv,hI,hi,hh,hE⟩:=hv
      subst hv
      exact⟨_,arrAt _ _ w,b,o,arr,ty,fz,by simp [Nat.add_assoc],hI,hi,hh,hE⟩
  . exact h.elim
theorem xae{ev:Operand->D}{x:Option Operand}{n l:Int}{c:Ctx}{w:World}{ρ:Operand->Value}(h:bnd x ev n=some l)(hr: ∀y,x=some y->Rep c w (ev y) (ρ y)):
   (x=none/\l=n)\/ ∃y k,x=some y/\ρ y= .int k l:=by
 cases x with
 |none=>simp [bnd]at h;exact .inl ⟨rfl,h.symm⟩
 | some y=>
   simp only[bnd]at h
   cases hd:ev y<;>simp only[hd]at h<;>try(cases h;done)
   have:=hr y rfl
   rw[hd]at this
   simp only[Option.some.injEq]at h
   subst h
   exact .inr ⟨y,_,rfl,Rep.int.1 this⟩
theorem Z8d{P:Program}{b:Bool}{len cap:Nat}{lo hi:Option Operand}{ev:Operand->D}{l h:Int}{c:Ctx}{w:World}{ρ:Operand->Value}
   (hl:bnd lo ev 0=some l) (hh:bnd hi ev len=some h) (hrl: ∀y,lo=some y->Rep c w (ev y) (ρ y)) (hrh: ∀y,hi=some y->Rep c w (ev y) (ρ y))
   (h0:0<=l) (h1:l<=h) (h2:h<=cap):(Instr.sliceBounds b len cap (lo.map ρ) (hi.map ρ) none).run P w= .ok (l.toNat,h.toNat,cap) w:=by
 have bound: ∀(k:IntKind) (i:Int) (y:Nat) (code:BoundsCode),0<=i->i<=y->(Instr.sliceBound (.int k i) y code).run P w= .ok i.toNat w:=by
   intro k i y code a1 a2
   simp [Instr.sliceBound,asIntOf,a1,a2]
 rcases xae hh hrh with⟨rfl,rfl⟩|⟨y,k,rfl,hy⟩<;>rcases xae hl hrl with⟨rfl,rfl⟩|⟨z,k',rfl,hz⟩
 . simp [Instr.sliceBounds]
 . simp [Instr.sliceBounds,hz,bound k' l len _ h0 h1]
 . simp [Instr.sliceBounds,hy,bound k h cap _ (by omega) h2]
 . simp [Instr.sliceBounds,hy,hz,bound k h cap _ (by omega) h2,bound k' l h.toNat _ h0 (by omega)]
theorem Qex{I:Blocks}{w:World}: ∀{es:List (List D)} {arr:Array Value} {off sz l:Nat},Q1r I w es arr off sz->Q1r I w (es.drop l) arr (off+l*sz) sz
 |es,arr,off,sz,0,h=>by simpa using h
 |[],arr,off,sz,l+1,h=>by simp [Q2v,Q2a]
 | e::es,arr,off,sz,l+1,h=>by
   simp only[Q2v,Q2a]at h
   have:=Qex (l:=l) h.2.2
   rw[show off+(l+1)*sz=off+sz+l*sz by rw[Nat.succ_mul];omega]
   simpa using this
theorem Qfn{I:Blocks}{w:World}: ∀{es:List (List D)} {arr:Array Value} {off sz n:Nat},Q1r I w es arr off sz->Q1r I w (es.take n) arr off sz
 |es,arr,off,sz,0,h=>by simp [Q2v,Q2a]
 |[],arr,off,sz,n+1,h=>by simp [Q2v,Q2a]
 | e::es,arr,off,sz,n+1,h=>by
   simp only[Q2v,Q2a]at h
   simp only[List.take_succ_cons,Q2v,Q2a]
   exact⟨h.1,h.2.1,Qfn h.2.2⟩
theorem Zc8(s:List UInt8)(l h:Nat):(ByteArray.mk s.toArray).extract l h=⟨((s.drop l).take (h-l)).toArray⟩:=by
 rw[Lib.extract_eq]
theorem yX{P:Program}{T:Tab}(hT:Q52 P T){t:TypeId}{x:D}{lo hi:Option Operand}{ev:Operand->D}{R:Rows}{K:D->Rows->Prop}(h:Qvk T t x lo hi ev R K):
    ∃ val,K val R/\ ∀c w v (ρ:Operand->Value),Mem c w->Q7p c R->Rep c w x v->(∀y,lo=some y->Rep c w (ev y) (ρ y))->(∀y,hi=some y->Rep c w (ev y) (ρ y))->
      Yld P (Instr.sliceAt t v (lo.map ρ) (hi.map ρ) none) w c val:=by
  unfold Qvk at h
  split at h
  . rename_i ht
    have hu:=Q23 hT ht
    simp only at hu
    cases x<;>simp only at h
    case str s=>
      split at h
      . rename_i l u hl hh
        try rw[<-Els.len_l]at hh
        simp only[Q08,decide_eq_true_eq]at h
        obtain⟨⟨h0,h1,h2⟩,h⟩:=h
        refine⟨_,h,λc w v ρ hm hA hv hrl hrh=> ?_⟩
        rw[Rep.str.1 hv]
        refine⟨_,?_,rfl⟩
        have hb:=Z8d (P:=P) (b:=false) (len:=s.length) (cap:=s.length) hl hh hrl hrh h0 h1 h2
        have hsz:(ByteArray.mk s.toArray).size=s.length:=by simp [ByteArray.size]
        simp only[Instr.sliceAt,Sem.run_bind,run_underlying hu,Result.andThen_ok,Instr.slice,Option.isSome_none,Bool.false_eq_true,if_false,hsz,hb,Sem.run_pure,Zc8]
      . exact h.elim
  . rename_i e esz _ _ _ _ _ ht
    have hk:=Q23 hT ht
    simp only at hk
    obtain⟨hu,hsz⟩:=hk
    have sl: ∀(a:Option Addr) (len cap:Nat) (l u:Int) (c:Ctx) (w:World) (ρ:Operand->Value),0<esz->bnd lo ev 0=some l->bnd hi ev len=some u->(∀y,lo=some y->Rep c w (ev y) (ρ y))->(∀y,hi=some y->Rep c w (ev y) (ρ y))->
        0<=l->l<=u->u<=cap->(Instr.sliceAt t (.slice a len cap) (lo.map ρ) (hi.map ρ) none).run P w= .ok (.slice (if cap=l.toNat then a else a.map (·.add (l.toNat*esz))) (u.toNat-l.toNat) (cap-l.toNat)) w:=by
      intro a len cap l u c w ρ h0 hl hh hrl hrh g0 g1 g2
      have hb:=Z8d (P:=P) (b:=true) (len:=len) (cap:=cap) hl hh hrl hrh g0 g1 g2
      simp only[Instr.sliceAt,Sem.run_bind,run_underlying hu,Result.andThen_ok,Instr.slice,hb,Qem (hsz▸h0),hsz,Sem.run_pure]
    cases x<;>simp only at h
    case sl sz es fr=>
      split at h
      . rename_i l u hl hh
        try rw[<-Els.len_l]at hh
        simp only[Q08,aE,decide_eq_true_eq,<-Els.len_l]at h
        obtain⟨⟨⟨h1,h0⟩,g0,g1,g2⟩,h⟩:=h
        have h1:=bE h1
        have h0:0<esz:=lE h0
        subst h1
        refine⟨_,h,λc w v ρ hm hA hv hrl hrh=> ?_⟩
        obtain⟨a,cap,hv,hc,hes⟩:=hv
        subst hv
        refine⟨_,sl a _ cap l u c w ρ h0 hl hh hrl hrh g0 g1 (by omega),?_⟩
        have hlen:((es.drop l.toNat).take (u.toNat-l.toNat)).l.length=u.toNat-l.toNat:=by rw[Els.take_l,Els.drop_l];simp only[List.length_take,List.length_drop];omega
        refine⟨_,cap-l.toNat,by rw[hlen],by omega,?_⟩
        rw[Els.take_l,Els.drop_l]
        by_cases hlu:l=u
        . left
          subst hlu
          simp
        . rcases hes with hes|⟨b,off,arr,ty,fz,ha,hI,hf,hh,hE⟩
          . rw[hes]at g2;simp at g2;omega
          . right
            subst ha
            refine⟨b,off+l.toNat*sz,arr,ty,fz,?_,hI,hf,hh,Qfn (Qex hE)⟩
            rw[if_neg (by omega)]
            simp [Qks]
      . exact h.elim
    case all r=>
      split at h
      . rename_i box ty sz es hR
        split at h
        . rename_i l u hl hh
          try rw[<-Els.len_l]at hh
          simp only[Q08,aE,decide_eq_true_eq,<-Els.len_l]at h
          obtain⟨⟨⟨h1,h0⟩,g0,g1,g2⟩,h⟩:=h
          have h1:=bE h1
          have h0:0<esz:=lE h0
          subst h1
          refine⟨_,h,λc w v ρ hm hA hv hrl hrh=> ?_⟩
          obtain⟨row,k1,k2,hv⟩:=hv
          have:=hA r row _ k1 hR
          subst this
          rcases hv with⟨hV,a,hv,hoa⟩|⟨hV,cap,arr,hv,k3,k4,k5,k6⟩
          . have he:=(hm.virt k1 hV).2.1
            simp only at he
            rw[he]at g2 hh
            simp at g2
            subst hv
            refine⟨_,sl a 0 0 l u c w ρ h0 hl hh hrl hrh g0 g1 (by omega),_,k1,k2,by simp only[he,List.length_nil];omega, .inl ⟨by omega,a,?_, .inl hoa⟩⟩
            rw[if_pos (by omega)]
            simp;omega
          subst hv
          simp only at*
          refine⟨_,sl _ _ cap l u c w ρ h0 hl hh hrl hrh g0 g1 (by omega),_,k1,k2,by simp only;omega,?_⟩
          by_cases hcl:cap=l.toNat
          . left
            exact⟨by omega,some ⟨c.ρ r,0,none⟩,by rw[if_pos hcl,show u.toNat-l.toNat=0 by omega,show cap-l.toNat=0 by omega], .inr ⟨hV,λx hx=>by cases hx;rfl⟩⟩
          . right
            refine⟨hV,cap-l.toNat,arr,by omega,by omega,k5,by rw[if_neg hcl];simp [Qks],?_⟩
            rw[<-k6];congr 1;omega
        . exact h.elim
      . exact h.elim
    case own r o m=>
      split at h
      . rename_i box ty sz es hR
        split at h
        . rename_i l u hl hh
          try rw[<-Els.len_l]at hh
          simp only[Q08,aE,decide_eq_true_eq,<-Els.len_l]at h
          obtain⟨⟨⟨h1,h0⟩,g0,g1,g2⟩,h⟩:=h
          have h1:=bE h1
          have h0:0<esz:=lE h0
          subst h1
          refine⟨_,h,λc w v ρ hm hA hv hrl hrh=> ?_⟩
          obtain⟨row,k1,k2,k5,hv⟩:=hv
          have:=hA r row _ k1 hR
          subst this
          simp only at*
          rcases hv with⟨k7,a,hv,hoa⟩|⟨hV,cap,arr,k3,k4,k6,hv,k7⟩
          . subst hv
            subst k7
            refine⟨_,sl a 0 0 l u c w ρ h0 hl hh hrl hrh g0 g1 (by omega),_,k1,k2,by simp only;omega, .inl ⟨by omega,a,?_,hoa⟩⟩
            rw[if_pos (by omega)]
            simp;omega
          . subst hv
            refine⟨_,sl _ _ cap l u c w ρ h0 hl hh hrl hrh g0 g1 (by omega),_,k1,k2,by simp only;omega,?_⟩
            by_cases hcl:cap=l.toNat
            . left
              exact⟨by omega,some ⟨c.ρ r,o*sz,none⟩,by rw[if_pos hcl,show u.toNat-l.toNat=0 by omega,show cap-l.toNat=0 by omega], .inr ⟨hV,λx hx=>by cases hx;rfl⟩⟩
            . right
              refine⟨hV,cap-l.toNat,arr,by omega,by omega,k6,by rw[if_neg hcl];simp [Qks,Nat.add_mul],?_⟩
              simp only
              rw[<-k7];congr 1;omega
        . exact h.elim
      . exact h.elim
  . exact h.elim
theorem qaW{P:Program}{T:Tab}(hT:Q52 P T){t t':TypeId}{x:D}{R:Rows}{K:D->Rows->Prop}(h:lenVC T t x R K):
    ∃val,K val R/\ ∀c w v,Mem c w->Q7p c R->Rep c w x v->Yld P (Builtin.len_ #[t] t' #[v]) w c val:=by
  unfold lenVC at h
  split at h
  . rename_i ht
    have hu:=Q23 hT ht
    simp only at hu
    cases x<;>simp only at h
    rename_i s
    refine⟨_,h,λc w v hm hA hv=>⟨_,?_,rfl⟩⟩
    rw[Rep.str.1 hv]
    have hsz:(ByteArray.mk s.toArray).size=s.length:=by simp [ByteArray.size]
    have h0:(#[t]:Array TypeId)[0]? =some t:=rfl
    have h1:(#[Value.string ⟨s.toArray⟩]:Array Value)[0]? =some (Value.string ⟨s.toArray⟩):=rfl
    unfold Builtin.len_
    simp only[h0,h1,Sem.run_bind,run_underlying hu,Result.andThen_ok,goInt,hsz,Sem.run_pure]
  . rename_i e esz _ _ _ _ _ ht
    have hk:=Q23 hT ht
    simp only at hk
    obtain⟨hu,hsz⟩:=hk
    have ln: ∀(a:Option Addr) (n cap:Nat) (w:World),(Builtin.len_ #[t] t' #[.slice a n cap]).run P w= .ok (.int .i64 n) w:=by
      intro a n cap w
      simp [Builtin.len_,run_underlying hu,goInt]
    cases x<;>simp only at h
    case nils=>exact⟨_,h,λc w v hm hA hv=>⟨_,by rw[show v=_ from hv];exact ln _ _ _ w,rfl⟩⟩
    case emp=>exact⟨_,h,λc w v hm hA hv=>by obtain⟨a,hv,_⟩:=hv;subst hv;exact⟨_,ln _ _ _ w,rfl⟩⟩
    case sl sz es fr=>
      refine⟨_,h,λc w v hm hA hv=> ?_⟩
      obtain⟨a,cap,hv,_⟩:=hv
      subst hv
      exact⟨_,ln _ _ _ w,by rw[Els.len_l];rfl⟩
    case all r=>
      split at h
      . rename_i box ty sz es hR
        refine⟨_,h,λc w v hm hA hv=> ?_⟩
        obtain⟨row,k1,k2,hv⟩:=hv
        have:=hA r row _ k1 hR
        subst this
        rcases hv with⟨hV,a,hv,_⟩|⟨hV,cap,arr,hv,k3,k4,k5,k6⟩
        . have he:=(hm.virt k1 hV).2.1
          simp only at he
          subst hv
          refine⟨_,ln _ _ _ w,?_⟩
          rw[<-Els.len_l,he];rfl
        . subst hv
          exact⟨_,ln _ _ _ w,by simp only[Els.len_l];rfl⟩
      . exact h.elim
    case own r o m=>
      refine⟨_,h,λc w v hm hA hv=> ?_⟩
      obtain⟨row,k1,k2,k5,hv⟩:=hv
      rcases hv with⟨h0,a,hv,_⟩|⟨hV,cap,arr,k3,k4,k6,hv,k7⟩
      . subst hv;subst h0;exact⟨_,ln _ _ _ w,rfl⟩
      . subst hv;exact⟨_,ln _ _ _ w,rfl⟩
  . exact h.elim
