import Derived.Test.YtaemmjbkndlkeaaGreatMigrateTellsFc
import Derived.Below
import Derived.DataReads
import Derived.ChangeArms
import Derived.SizedLaws
import Derived.ProofKit
import Derived.OpenShut
import Derived.ShutString
import Derived.ChangeOld
import Derived.Carry
import Derived.Lib.LaidTab
open Nat renaming beq->bX
open List renaming map_map->bY,map_congr_left->bQ,map_id->cG,cons_append->cH,getD->aV,mem_append->cB,take_add->cI,drop_drop->cJ,getElem?_eq_getElem->aI,mem_map_of_mem->cK,getElem?_of_mem->cL,append_nil->cM
set_option linter.all false
namespace Go.GD
open Go
variable {w:World}
def Ctx.all(w:World):Ctx:={ρ:=λr=>r,R:=λ_=>none,V:=λ_=>False,I:=λb=>b<w.heap.size,base:=w.heap.size,top:=w.heap.size,X:=λ_=>False}
theorem xaj(w:World)(ht:Ba (λb=>b<w.heap.size) w):Mem (Ctx.all w) w:=⟨λr row h=>by simp[Ctx.all]at h,λr s x y h=>by simp[Ctx.all]at h,λb hb=>⟨hb,λr x h=>by simp[Ctx.all]at h⟩,Nat.le_refl _,ht⟩
theorem vI{P:Program}{f:FuncId}{args:List D}{vs:List Value}(h:kM P f args [] (.bool true) [])(ha:kJ (Ctx.all w) w args vs)(ht:Ba (λb=>b<w.heap.size) w):
 Calls P f vs.toArray w λe w'=>e=.returned (.bool true)/\RowKit.Below w.heap.size w w':=by
 refine(h (Ctx.all w) w vs (xaj w ht) rfl (λr=>by simp[Ctx.all]) ha).mono λe w' hq=>?_
 obtain⟨v,c',he,hn,_,hr⟩:=hq
 have hv:v=.bool true:=hr
 subst hv
 exact⟨he,hn.fr.os,hn.fr.tape,hn.fr.output,hn.fr.size,λk hk=>hn.fr.heap k hk fun⟨r,x,hr,_⟩=>by simp[Ctx.all]at hr⟩
theorem qak{b:Nat}{o:Obj}(h:w.heap[b]?=some o):b<w.heap.size:=by
 by_cases bc:b<w.heap.size
 ·exact bc
 ·rw[Array.getElem?_eq_none (by omega)]at h;cases h
inductive lG where
 |int (k:IntKind)
 |bool
 |str
 |sl (cells:List lG)
def lG.bytes:lG->Nat
 |.int k=>match k with|.i8=>1|.u8=>1|.i16=>2|.u16=>2|.i32=>4|.u32=>4|_=>8
 |.bool=>1
 |.str=>16
 |.sl _=>24
def LN:List lG->Nat
 |[]=>0
 |t::l=>t.bytes+LN l
def tq:Nat->List lG->List lG
 |0,_=>[]
 |n+1,l=>l++tq n l
def ON(P:Program)(g:TypeId->Option (List lG)):List Field->Nat->Option (List lG)
 |[],_=>some []
 |f::l,off=>match g f.type,ON P g l (off+P.cellsOf f.type)with
  |some a,some b=>match bX f.offset off&&bX a.length (P.cellsOf f.type)with|true=>some (a++b)|false=>none
  |_,_=>none
def oU(P:Program):Nat->TypeId->Option (List lG)
 |0,_=>none
 |f +1,t=>match P.underlying t with
  |some .bool=>some [.bool]
  |some (.int k)=>some [.int k]
  |some .string=>some [.str]
  |some (.slice e)=>match oU P f e with
   |some l=>match bX l.length (P.cellsOf e)&&(Nat.blt 0 l.length&&Nat.ble (LN l) (P.bytesOf e))with|true=>some [.sl l]|false=>none
   |none=>none
  |some (.struct fs)=>match ON P (oU P f) fs.toList 0 with
   |some l=>match bX l.length (P.cellsOf t)with|true=>some l|false=>none
   |none=>none
  |some (.array n e)=>match oU P f e with
   |some l=>match bX l.length (P.cellsOf e)&&bX (tq n l).length (P.cellsOf t)with|true=>some (tq n l)|false=>none
   |none=>none
  |_=>none
def LO:List lG->List (List D)->ag
 |[.int k],es=>.ints k (es.map λe=>(e.getD 0 .dead).toInt)
 |[.bool],es=>.ah (es.map λe=>(e.getD 0 .dead).toBool)
 |_,es=>.gen es
mutual
def Fit:lG->D->Prop
 |.int k,d=>∃n,d=.int k n/\k.min<=n/\n<=k.max
 |.bool,d=>∃b,d=.bool b
 |.str,d=>∃s,d=.str s/\s.length<=reachBytes
 |.sl ts,d=>∃es,d=.sl ts.length (LO ts es) false/\es.length*LN ts<=reachBytes/\∀e∈es,Fits ts e
def Fits:List lG->List D->Prop
 |[],[]=>True
 |t::ts,d::ds=>Fit t d/\Fits ts ds
 |_,_=>False
end
theorem Zvc{ts:List lG}{es:List (List D)}(h:∀e∈es,Fits ts e):(LO ts es).l=es:=by
 unfold LO
 split
 ·simp only[ag.l,bY]
  refine(bQ λe he=>?_).trans (cG _)
  have:=h e he
  match e,this with
  |[d],this=>
   simp only[Fits,Fit]at this
   obtain⟨⟨n,rfl,_⟩,_⟩:=this
   rfl
  |[],this=>simp[Fits]at this
  |d::_::_,this=>simp[Fits]at this
 ·simp only[ag.l,bY]
  refine(bQ λe he=>?_).trans (cG _)
  have:=h e he
  match e,this with
  |[d],this=>
   simp only[Fits,Fit]at this
   obtain⟨⟨n,rfl⟩,_⟩:=this
   rfl
  |[],this=>simp[Fits]at this
  |d::_::_,this=>simp[Fits]at this
 ·rfl
theorem Zva{k:IntKind}{d:D}(h:Fit (.sl [.int k]) d):∃l:List Int,d=.sl 1 (.ints k l) false/\l.length*(lG.int k).bytes<=reachBytes/\∀n∈l,k.min<=n/\n<=k.max:=by
 unfold Fit at h
 obtain⟨es,rfl,hl,h⟩:=h
 refine⟨_,rfl,by simpa[LN]using hl,λn hn=>?_⟩
 simp only[List.mem_map]at hn
 obtain⟨e,he,rfl⟩:=hn
 have:=h e he
 match e,this with
 |[d],this=>
  simp only[Fits,Fit]at this
  obtain⟨⟨n,rfl,h1⟩,_⟩:=this
  exact h1
 |[],this=>simp[Fits]at this
 |d::_::_,this=>simp[Fits]at this
def oj(I:ab)(w:World):List D->List Value->Prop
 |[],[]=>True
 |d::ds,v::vs=>gh I w d v/\oj I w ds vs
 |_,_=>False
theorem oj.length{I:ab}{w:World}:∀{ds:List D} {vs:List Value},oj I w ds vs->ds.length=vs.length
 |[],[],_=>rfl
 |_::_,_::_,h=>by simp[oj.length h.2]
 |[],_::_,h=>h.elim
 |_::_,[],h=>h.elim
theorem oj.append{I:ab}{w:World}:∀{ds es:List D} {vs us:List Value},oj I w ds vs->oj I w es us->oj I w (ds++es) (vs++us)
 |[],_,[],_,_,h=>h
 |_::_,_,_::_,_,h,g=>⟨h.1,oj.append h.2 g⟩
 |[],_,_::_,_,h,_=>h.elim
 |_::_,_,[],_,h,_=>h.elim
theorem Fits.length:∀{ts:List lG} {ds:List D},Fits ts ds->ts.length=ds.length
 |[],[],_=>rfl
 |_::_,_::_,h=>by unfold Fits at h;simp[Fits.length h.2]
 |[],_::_,h=>by unfold Fits at h;exact h.elim
 |_::_,[],h=>by unfold Fits at h;exact h.elim
theorem Fits.append:∀{ts us:List lG} {ds es:List D},Fits ts ds->Fits us es->Fits (ts++us) (ds++es)
 |[],_,[],_,_,h=>h
 |_::_,_,_::_,_,h,g=>by unfold Fits at h;simp only[cH];unfold Fits;exact⟨h.1,Fits.append h.2 g⟩
 |[],_,_::_,_,h,_=>by unfold Fits at h;exact h.elim
 |_::_,_,[],_,h,_=>by unfold Fits at h;exact h.elim
theorem UY{α β:Type}{f:α->Option β}:∀{l:List α} {r:List β},l.mapM f=some r->r.length=l.length/\∀(j:Nat) (x:α),l[j]?=some x->∃y,f x=some y/\r[j]?=some y
 |[],r,h=>by simp at h;subst h;exact⟨rfl,λj x hj=>by simp at hj⟩
 |a ::l,r,h=>by
  rw[List.mapM_cons]at h
  cases hf:f a with
  |none=>rw[hf]at h;cases h
  |some y=>
   cases hl:l.mapM f with
   |none=>rw[hf,hl]at h;cases h
   |some ys=>
    rw[hf,hl]at h
    have:r=y::ys:=by simpa using h.symm
    subst this
    obtain⟨h1,h2⟩:=UY hl
    refine⟨by simp[h1],λj x hj=>?_⟩
    cases j with
    |zero=>simp at hj;subst hj;exact⟨y,hf,rfl⟩
    |succ j=>simp at hj;obtain⟨z,hz⟩:=h2 j x hj;exact⟨z,hz.1,by simpa using hz.2⟩
theorem Zc6{Q:Nat->List D->Prop}:∀(n:Nat),(∀i,i<n->∃e,Q i e)->∃es:List (List D),es.length=n/\∀i,i<n->Q i (es.getD i [])
 |0,_=>⟨[],rfl,λi h=>by omega⟩
 |n +1,h=>by
  obtain⟨es,h1,h2⟩:=Zc6 n λi hi=>h i (by omega)
  obtain⟨e,he⟩:=h n (by omega)
  refine⟨es++[e],by simp[h1],λi hi=>?_⟩
  by_cases bc:i<n
  ·have:=h2 i bc
   simpa[aV,List.getElem?_append_left (show i<es.length by omega)]using this
  ·have:i=n:=by omega
   subst this
   simpa[aV,List.getElem?_append_right (show es.length<=i by omega),h1]using he
theorem Zpn{I:ab}{w:World}{arr:Array Value}{sz:Nat}:∀{es:List (List D)} {off:Nat},(∀i,i<es.length->(es.getD i []).length=sz/\py I w (es.getD i []) arr (off+i*sz))->im I w es arr off sz
 |[],_,_=>.nil _ _ _
 |e::es,off,h=>by
  have h0:=h 0 (by simp)
  refine .cons _ _ _ _ _ (by simpa using h0.1) (by simpa using h0.2) (Zpn λi hi=>?_)
  have:=h (i+1) (by simpa using hi)
  have e1:off+sz+i*sz=off+(i+1)*sz:=by rw[Nat.add_mul];omega
  rw[e1]
  simpa using this
theorem Zqz{I:ab}{w:World}{arr:Array Value}:∀{ds:List D} {vs:List Value} {off:Nat},oj I w ds vs->(∀j,j<vs.length->arr[off+j]?=vs[j]?)->py I w ds arr off
 |[],[],_,_,_=>.nil _ _
 |d::ds,v::vs,off,h,hc=>by
  refine .cons _ _ _ _ v (by simpa using hc 0 (by simp)) h.1 (Zqz h.2 λj hj=>?_)
  have:=hc (j+1) (by simpa using hj)
  rw[show off+1+j=off+(j+1) by omega]
  simpa using this
 |[],_::_,_,h,_=>h.elim
 |_::_,[],_,h,_=>h.elim
section
variable {H:Type} {enc:TypeId×Value->H} {P:Program} {w:World}
theorem YX{t:TypeId}:∀{ds:List (DataW H)} {d:DataW H},d∈ds->∀n∈d.weights P t,n∈DataW.weightsAll P t ds
 |d0::ds,d,hd,n,hn=>by
  simp only[DataW.weightsAll,cB]
  rcases List.mem_cons.1 hd with rfl|hd
  ·exact .inl hn
  ·exact .inr (YX hd n hn)
 |[],_,hd,_,_=>by simp at hd
def LP(P:Program)(t:TypeId)(d:DataW H):Prop:=∀n∈d.weights P t,n<=reachBytes
theorem Zb6{g:TypeId->Option (List lG)}{fuel:Nat}{cs:List Value}(ih:∀t cs x dh,DataW.trod enc P w 0 (λ_=>true) true fuel t cs=some x->LP P t x.1->g t=some dh->∃ds,Fits dh ds/\oj (Ctx.all w).I w ds cs):
 ∀ (l:List Field) (off:Nat) (dh:List lG),(∀f∈l,∃y,DataW.trod enc P w 0 (λ_=>true) true fuel f.type ((cs.drop f.offset).take (P.cellsOf f.type))=some y/\LP P f.type y.1)->ON P g l off=some dh->
  ∃ds,Fits dh ds/\oj (Ctx.all w).I w ds ((cs.drop off).take dh.length)
 |[],off,dh,_,h=>by simp[ON]at h;subst h;exact⟨[],by unfold Fits;trivial,by simp[oj]⟩
 |f ::l,off,dh,hl,h=>by
  simp only[ON]at h
  split at h
  ·rename_i a b ha hb
   split at h
   ·rename_i hc
    simp only[aE]at hc
    have h1:=bE hc.1
    have h2:=bE hc.2
    cases h
    obtain⟨y,hy,hz⟩:=hl f (by simp)
    obtain⟨ds,hd,hr⟩:=ih _ _ _ _ hy hz ha
    obtain⟨es,he,hs⟩:=Zb6 ih l _ b (λf hf=>hl f (by simp[hf])) hb
    refine⟨ds++es,hd.append he,?_⟩
    rw[h1,<-h2]at hr
    rw[<-h2]at hs
    rw[lA,cI,cJ]
    exact hr.append hs
   ·cases h
  ·cases h
theorem Zrc{fuel:Nat}{e:TypeId}{cs:List Value}{l:List lG}(ih:∀cs x,DataW.trod enc P w 0 (λ_=>true) true fuel e cs=some x->LP P e x.1->∃ds,Fits l ds/\oj (Ctx.all w).I w ds cs)(hl:l.length=P.cellsOf e):
 ∀ (n off:Nat),(∀i,i<n->∃y,DataW.trod enc P w 0 (λ_=>true) true fuel e ((cs.drop (off+i*P.cellsOf e)).take (P.cellsOf e))=some y/\LP P e y.1)->
  ∃ds,Fits (tq n l) ds/\oj (Ctx.all w).I w ds ((cs.drop off).take (tq n l).length)
 |0,off,_=>⟨[],by unfold tq Fits;trivial,by simp[oj,tq]⟩
 |n +1,off,h=>by
  obtain⟨y,hy,hz⟩:=h 0 (by omega)
  obtain⟨ds,hd,hr⟩:=ih _ _ hy hz
  obtain⟨es,he,hs⟩:=Zrc ih hl n (off+P.cellsOf e) λi hi=>by
   have:=h (i+1) (by omega)
   rwa [show off+P.cellsOf e+i*P.cellsOf e=off+(i+1)*P.cellsOf e by rw[Nat.add_mul];omega]
  refine⟨ds++es,hd.append he,?_⟩
  simp only[tq]
  rw[lA,cI,cJ,hl]
  exact(by simpa using hr:oj (Ctx.all w).I w ds _).append hs
theorem UZ : ∀(f fuel:Nat) (t:TypeId) (cs:List Value) (x:DataW H×List MemPlace) (dh:List lG),DataW.trod enc P w 0 (λ_=>true) true fuel t cs=some x->LP P t x.1->oU P f t=some dh-> ∃ds,Fits dh ds/\oj (Ctx.all w).I w ds cs
  |0,_,_,_,_,_,_,_,h=>by simp [oU]at h
  |f+1,0,_,_,_,_,h,_,_=>by simp [DataW.trod]at h
  | f + 1, fuel + 1,t,cs,x,dh,h,hz,hs=>by
    simp only[oU]at hs
    split at hs
    . rename_i hu
      cases hs
      obtain⟨b,rfl,_⟩:=DataW.trod_bool hu h
      exact⟨[.bool b],by simp [Fits,Fit],by simp [oj,sR,sS,sU,sV,sW,sX,uo,Q9,uP,uQ,uR,uS,uT,uU,uV,uW]⟩
    . rename_i k hu
      cases hs
      obtain⟨n,rfl,_,hw⟩:=DataW.trod_int hu h
      simp only[Lit.wf,aE,decide_eq_true_eq]at hw
      exact⟨[.int k n],by simp [Fits,Fit,hw],by simp [oj,sR,sS,sU,sV,sW,sX,uo,Q9,uP,uQ,uR,uS,uT,uU,uV,uW]⟩
    . rename_i hu
      cases hs
      obtain⟨s,rfl,hx,ga⟩:=DataW.trod_string hu h
      have hb:s.data.toList.length<=reachBytes:=hz _ (by rw[hx];simp [DataW.weights])
      refine⟨[.str s.data.toList],?_,?_⟩
      . simp only[Fits,Fit]
        exact⟨⟨_,rfl,hb⟩,trivial⟩
      . simp [oj,sR,sS,sU,sV,sW,sX,uo,Q9,uP,uQ,uR,uS,uT,uU,uV,uW]
    . rename_i e hu
      split at hs
      . rename_i l hl
        split at hs
        . rename_i hc
          cases hs
          simp only[aE]at hc
          have h1:=bE hc.1
          have h2:0<l.length:=lE hc.2.1
          have h3:LN l<=P.bytesOf e:=lE hc.2.2
          rcases DataW.trod_slice hu h with⟨rfl,_⟩|⟨a,len,cap,elems,rest,n,hn,rfl,hx,_,hlc,Bb,Hc,iy,_⟩
          . have Hr:(LO l []).l=[]:=Zvc (λe he=>by simp at he)
            refine⟨[.sl l.length (LO l []) false],?_,?_⟩
            . simp only[Fits,Fit]
              exact⟨⟨[],rfl,by simp,by simp⟩,trivial⟩
            . simp only[oj,sR,sS,sU,sV,sW,sX,uo,Q9,uP,uQ,uR,uS,uT,uU,uV,uW]
              exact⟨⟨none,0,by rw[Hr];rfl,by rw[Hr];exact Nat.le_refl _, .inl Hr⟩,trivial⟩
          . have hn:n=fuel:=by omega
            subst hn
            have each: ∀i,i<len-> ∃e',Fits l e'/\ ∃vs,oj (Ctx.all w).I w e' vs/\w.cells? 0 (a.add (i*P.cellsOf e)) (P.cellsOf e)=some vs:=λi hi=>by
              have:=iy i hi
              rw[aI (by omega)]at this
              cases CK:w.cells? 0 (a.add (i*P.cellsOf e)) (P.cellsOf e) with
              |none=>rw[CK]at this;cases this
              | some vs=>
                rw[CK]at this
                obtain⟨ds,hd,hr⟩:=UZ f n e vs _ l this (λm hm=>hz m (by
                  rw[hx]
                  simp only[DataW.weights,hu,List.mem_cons,cB]
                  exact .inr (.inl (YX (cK (List.getElem_mem _)) m hm)))) hl
                exact⟨ds,hd,vs,hr,rfl⟩
            obtain⟨es,gz,hE⟩:=Zc6 len each
            have nq: ∀e'∈es,Fits l e':=λe' AL=>by
              obtain⟨i,hi⟩:=cL AL
              have bc:=(List.getElem?_eq_some_iff.1 hi).1
              have:=(hE i (by omega)).1
              rwa [aV,hi]at this
            have jH:=Zvc nq
            refine⟨[.sl l.length (LO l es) false],?_,?_⟩
            . simp only[Fits,Fit]
              refine⟨⟨es,rfl,?_,nq⟩,trivial⟩
              have hb:(elems.length+rest.length)*P.bytesOf e<=reachBytes:=hz _ (by rw[hx];simp [DataW.weights,hu])
              have h4:es.length*LN l<=(elems.length+rest.length)*P.bytesOf e:=Nat.mul_le_mul (by omega) h3
              omega
            . simp only[oj,sR,sS,sU,sV,sW,sX,uo,Q9,uP,uQ,uR,uS,uT,uU,uV,uW,U0,jH]
              refine⟨⟨some a,cap,by rw[gz],by omega,?_⟩,trivial⟩
              by_cases hz:len=0
              . left;exact List.eq_nil_of_length_eq_zero (by omega)
              . right
                have cellAt: ∀i vs,w.cells? 0 (a.add (i*P.cellsOf e)) (P.cellsOf e)=some vs->vs.length=P.cellsOf e/\ ∀j,j<P.cellsOf e->w.cell? ((a.add (i*P.cellsOf e)).add j)=vs[j]? :=λi vs CF=>by
                  simp only[World.cells?,Nat.zero_le,if_true]at CF
                  obtain⟨g1,g2⟩:=UY CF
                  refine⟨by simpa using g1,λj hj=> ?_⟩
                  obtain⟨y,hy,AR⟩:=g2 j j (by simp [hj])
                  rw[hy,AR]
                obtain⟨_,U1,hr0,Hr⟩:=hE 0 (by omega)
                have h0:=(cellAt 0 U1 Hr).2 0 (by omega)
                have BK: ∃v,U1[0]? =some v:=⟨U1[0]'(by have:=(cellAt 0 U1 Hr).1;omega),aI _⟩
                obtain⟨v0,BK⟩:=BK
                rw[BK]at h0
                have I2:=World.cell?_spot h0
                obtain⟨b,off,sp⟩:=a
                simp only[Addr.add,Nat.zero_mul,if_true]at I2 h0
                subst I2
                have hb: ∃arr ty fz,w.heap[b]? =some (.cells arr ty fz):=by
                  unfold World.cell? at h0
                  split at h0
                  . rename_i arr ty fz he;exact⟨arr,ty,fz,he⟩
                  . cases h0
                obtain⟨arr,ty,fz,he⟩:=hb
                refine⟨b,off,arr,ty,fz,rfl,qak he,he,Zpn λi hi=> ?_⟩
                obtain⟨hf,vs,hr,CK⟩:=hE i (by omega)
                obtain⟨k1,k2⟩:=cellAt i vs CK
                refine⟨hf.length.symm,Zqz hr λj hj=> ?_⟩
                have:=k2 j (by omega)
                rw[<-this,h1]
                have e1:(((⟨b,off,none⟩:Addr).add (i*P.cellsOf e)).add j)=⟨b,off+i*P.cellsOf e+j,none⟩:=by
                  unfold Addr.add
                  split<;>split<;>simp_all
                rw[e1]
                unfold World.cell?
                simp [he]
        . cases hs
      . cases hs
    . rename_i fs hu
      split at hs
      . rename_i l hl
        split at hs
        . rename_i hc
          cases hs
          have hc:=bE hc
          unfold DataW.trod at h
          rw[hu]at h
          simp only at h
          split at h
          . rename_i hlen
            cases hm:fs.toList.mapM λf=>DataW.trod enc P w 0 (λ_=>true) true fuel f.type ((cs.drop f.offset).take (P.cellsOf f.type)) with
            |none=>rw[hm]at h;cases h
            | some r=>
              obtain⟨_,hg⟩:=UY hm
              rw[hm]at h
              have hx:x=(.agg (r.map (·.1)),r.flatMap (·.2)):=by simpa using h.symm
              obtain⟨ds,hd,hr⟩:=Zb6 (g:=oU P f) (λt cs x dh=>UZ f fuel t cs x dh) fs.toList 0 dh (λfd hf=>by
                obtain⟨j,hj⟩:=cL hf
                obtain⟨y,hy,YY⟩:=hg j fd hj
                refine⟨y,hy,λm mU=>hz m ?_⟩
                rw[hx]
                simp only[DataW.weights,hu]
                exact DataW.weights_mem_each (j:=j) (by simp [hj]) (by simp [YY]) m mU) hl
              refine⟨ds,hd,?_⟩
              rw[hc,<-hlen]at hr
              simpa using hr
          . cases h
        . cases hs
      . cases hs
    . rename_i n e hu
      split at hs
      . rename_i l hl
        split at hs
        . rename_i hc
          simp only[Option.some.injEq]at hs
          simp only[aE]at hc
          have h1:=bE hc.1
          have h2:=bE hc.2
          subst hs
          unfold DataW.trod at h
          rw[hu]at h
          simp only at h
          split at h
          . rename_i hlen
            cases hm:(List.range n).mapM λi=>DataW.trod enc P w 0 (λ_=>true) true fuel e ((cs.drop (i*P.cellsOf e)).take (P.cellsOf e)) with
            |none=>rw[hm]at h;cases h
            | some r=>
              obtain⟨_,hg⟩:=UY hm
              rw[hm]at h
              have hx:x=(.agg (r.map (·.1)),r.flatMap (·.2)):=by simpa using h.symm
              obtain⟨ds,hd,hr⟩:=Zrc (l:=l) (λcs x hx hz=>UZ f fuel e cs x l hx hz hl) h1 n 0 (λi hi=>by
                obtain⟨y,hy,YY⟩:=hg i i (by simp [hi])
                refine⟨y,by simpa using hy,λm mU=>hz m ?_⟩
                rw[hx]
                simp only[DataW.weights,hu]
                exact YX (cK (List.mem_of_getElem? YY)) m mU)
              refine⟨ds,hd,?_⟩
              rw[h2,<-hlen]at hr
              simpa using hr
          . cases h
        . cases hs
      . cases hs
    . cases hs
end
end Go.GD
namespace Go.GD
open Go Go.ChangeShapes Go.RowKit
variable {Ds:List D}{d:D}{n:Nat}{v:Value}
def u5(P:Program)(t:TypeId):Bool:=match P.underlying t with|some (.struct _)=>true|some (.array _ _)=>true|_=>false
def lR:List (Bool×List lG)->List D->Prop
 |[],[]=>True
 |(true,dh)::l,d::ds=>(∃es,d=.agg es/\Fits dh es)/\lR l ds
 |(false,dh)::l,d::ds=>Fits dh [d]/\lR l ds
 |_,_=>False
theorem U2{dh:List lG}{l:List (Bool×List lG)}(h:lR ((false,dh)::l) Ds):∃d ds,Ds=d::ds/\Fits dh [d]/\lR l ds:=by
 cases Ds with
 |nil=>unfold lR at h;exact h.elim
 |cons d ds=>unfold lR at h;exact⟨d,ds,rfl,h⟩
theorem qJ(h:lR [] Ds):Ds=[]:=by
 cases Ds with
 |nil=>rfl
 |cons d ds=>unfold lR at h;exact h.elim
theorem U3{t:lG}(h:Fits [t] [d]):Fit t d:=by unfold Fits at h;exact h.1
theorem U4{k:IntKind}(h:Fit (.int k) d):∃n,d=.int k n/\k.min<=n/\n<=k.max:=by unfold Fit at h;exact h
theorem xJ(h:Fit .bool d):∃b,d=.bool b:=by unfold Fit at h;exact h
def tt(P:Program)(n:Nat):List TypeId->List (Bool×List lG)->Prop
 |[],[]=>True
 |t::ts,(b,dh)::l=>oU P n t=some dh/\u5 P t=b/\P.readableRec t=true/\t<P.types.size/\tt P n ts l
 |_,_=>False
theorem zak{w:World}{t:lG}(hf:Fit t d)(h:gh (Ctx.all w).I w d v):dc (Ctx.all w) w d v:=by
 cases t with
 |int k=>unfold Fit at hf;obtain⟨n,rfl,_⟩:=hf;exact sS.1 h
 |bool=>unfold Fit at hf;obtain⟨n,rfl⟩:=hf;exact sR.1 h
 |str=>unfold Fit at hf;obtain⟨n,rfl,_⟩:=hf;exact sU.1 h
 |sl ts=>
  unfold Fit at hf
  obtain⟨es,rfl,_⟩:=hf
  simp only[sR,sS,sU,sV,sW,sX,uo,Q9,uP,uQ,uR,uS,uT,uU,uV,uW]at h
  obtain⟨a,cap,h1,h2,h3⟩:=h
  refine⟨a,cap,h1,h2,?_⟩
  rcases h3 with h3|⟨b,off,arr,ty,fz,g0,g1,g2,g3⟩
  ·exact .inl h3
  ·exact .inr ⟨b,off,arr,ty,fz,g0,g1,(λe=>by cases e),g2,U0.1 g3⟩
theorem YZ{w:World}:∀{ts:List lG} {ds:List D} {vs:List Value},Fits ts ds->oj (Ctx.all w).I w ds vs->jG (Ctx.all w) w ds vs
 |[],[],[],_,_=>trivial
 |t::ts,d::ds,v::vs,hf,h=>by unfold Fits at hf;exact⟨zak hf.1 h.1,YZ hf.2 h.2⟩
 |[],[],_::_,_,h=>h.elim
 |_,_::_,[],_,h=>h.elim
 |[],_::_,_,hf,_=>by unfold Fits at hf;exact hf.elim
 |_::_,[],_,hf,_=>by unfold Fits at hf;exact hf.elim
section
variable {H:Type} {enc:TypeId×Value->H} {P:Program} {w:World}
theorem zJ{t:TypeId}{dh:List lG}{b:Bool}{base:Nat}{d:DataW H}{p:List MemPlace}(hs:oU P n t=some dh)(hb:u5 P t=b)(hv:Value.okWide P w .any base t v)(h:DataW.Trod enc P w 0 (λ_=>true) true t v d p)(hz:LP P t d):
 ∃D',lR [(b,dh)] [D']/\VRep (Ctx.all w) w D' v:=by
 obtain⟨fuel,h⟩:=h
 obtain⟨ds,hd,hr⟩:=UZ n fuel t _ _ dh h hz hs
 unfold u5 at hb
 cases b with
 |true=>
  have u6:∃cs,v=.agg cs:=by
   unfold Value.okWide at hv
   split at hb
   ·rename_i hu;rw[hu]at hv;obtain⟨cs,h1,_⟩:=hv;exact⟨cs,h1⟩
   ·rename_i hu;rw[hu]at hv;obtain⟨cs,h1,_⟩:=hv;exact⟨cs,h1⟩
   ·cases hb
  obtain⟨cs,rfl⟩:=u6
  refine⟨.agg ds,by simp only[lR];exact⟨⟨ds,rfl,hd⟩,trivial⟩,cs.toList,by simp,?_⟩
  exact YZ hd (by simpa[Value.cells]using hr)
 |false =>
  have nJ:v.cells.toList=[v]/\dh.length=1:=by
   cases n with
   |zero=>simp[oU]at hs
   |succ n=>
    simp only[oU]at hs
    unfold Value.okWide at hv
    split at hs
    ·rename_i hu;cases hs;rw[hu]at hv;simp only[Cell.okWide,hu]at hv;cases v<;>simp_all [Cell.ok,Value.cells]
    ·rename_i hu;cases hs;rw[hu]at hv;simp only[Cell.okWide,hu]at hv;cases v<;>simp_all [Cell.ok,Value.cells]
    ·rename_i hu;cases hs;rw[hu]at hv;simp only[Cell.okWide,hu]at hv;cases v<;>simp_all [Cell.ok,Value.cells]
    ·rename_i hu
     split at hs
     ·split at hs
      ·cases hs;rw[hu]at hv;simp only[Cell.okWide,hu]at hv;cases v<;>simp_all [Cell.ok,Value.cells]
      ·cases hs
     ·cases hs
    ·rename_i hu;rw[hu]at hb;cases hb
    ·rename_i hu;rw[hu]at hb;cases hb
    ·cases hs
  rw[nJ.1]at hr
  match dh,ds,hd,hr,nJ.2 with
  |[t],[d],hd,hr,_=>
   refine⟨d,by simp only[lR];exact⟨hd,trivial⟩,?_⟩
   have:=(YZ hd hr).1
   cases d<;>first|exact this|exact this.elim
  |[t],_::_::_,hd,hr,_=>exact hr.2.elim
  |[t],[],hd,hr,_=>exact hr.elim
theorem Zog{n:Nat}{base:Nat}:∀{ts:List TypeId} {sig:List (Bool×List lG)} {vs:List Value} {ds:List (DataW H)} {p:List MemPlace},tt P n ts sig->(∀(j:Nat) t v,ts[j]?=some t->vs[j]?=some v->Value.okWide P w .any base t v)->DataW.TrodAll enc P w 0 (λ_=>true) true ts vs ds p->(∀n∈DataW.weightsEach P ts ds,n<=reachBytes)->
 ds.length=ts.length/\∃Ds,lR sig Ds/\kJ (Ctx.all w) w Ds vs
 |[],[],[],[],_,_,_,_,_=>⟨rfl,[],trivial,trivial⟩
 |t::ts,(b,dh)::sig,v::vs,d::ds,p,hS,hv,h,hz=>by
  obtain⟨h1,h2,h3,h4,h5⟩:=hS
  obtain⟨p1,p2,g1,g2,rfl⟩:=h
  obtain⟨D',hf,hr⟩:=zJ h1 h2 (hv 0 t v rfl rfl) g1 (λn hn=>hz n (by simp only[DataW.weightsEach,cB];exact .inl hn))
  obtain⟨hl,Ds,OO,hrs⟩:=Zog h5 (λj t v a b=>hv (j+1) t v (by simpa using a) (by simpa using b)) g2 (λn hn=>hz n (by simp only[DataW.weightsEach,cB];exact .inr hn))
  refine⟨by simp[hl],D'::Ds,?_,hr,hrs⟩
  cases b
  ·simp only[lR]at hf⊢;exact⟨hf.1,OO⟩
  ·simp only[lR]at hf⊢;exact⟨hf.1,OO⟩
 |[],[],_::_,_,_,_,_,h,_=>by simp[DataW.TrodAll]at h
 |[],[],[],_::_,_,_,_,h,_=>by simp[DataW.TrodAll]at h
 |_::_,_,[],_,_,_,_,h,_=>by simp[DataW.TrodAll]at h
 |_::_,_,_::_,[],_,_,_,h,_=>by simp[DataW.TrodAll]at h
 |[],_::_,_,_,_,h,_,_,_=>h.elim
 |_::_,[],_,_,_,h,_,_,_=>h.elim
theorem Zpk{w':World}{n:Nat}(hl:laidOutB P=true)(OP:Below w.heap.size w w'):∀{ts:List TypeId} {sig:List (Bool×List lG)} {vs:List Value} {ds:List (DataW H)} {p:List MemPlace},tt P n ts sig->DataW.TrodAll enc P w 0 (λ_=>true) true ts vs ds p->
 DataW.TrodAll enc P w' 0 (λb=>decide (b<w.heap.size)) true ts vs ds p
 |[],[],[],[],_,_,h=>h
 |t::ts,(b,dh)::sig,v::vs,d::ds,p,hS,h=>by
  obtain⟨h1,h2,h3,h4,h5⟩:=hS
  obtain⟨p1,p2,g1,g2,rfl⟩:=h
  refine trodAll_cons_mk (Below.trod hl h3 h4 g1 OP λx hx=>?_) (Zpk hl OP h5 g2)
  obtain⟨m,hm⟩:=g1
  exact DataW.trod_lt m _ _ _ hm x hx
 |[],[],_::_,_,_,_,h=>by simp[DataW.TrodAll]at h
 |[],[],[],_::_,_,_,h=>by simp[DataW.TrodAll]at h
 |_::_,_,[],_,_,_,h=>by simp[DataW.TrodAll]at h
 |_::_,_,_::_,[],_,_,h=>by simp[DataW.TrodAll]at h
 |[],_::_,_,_,_,h,_=>h.elim
 |_::_,[],_,_,_,h,_=>h.elim
theorem Zdj:∀{ts us:List TypeId} {ds gs:List (DataW H)} {n:Nat},n∈DataW.weightsEach P ts ds->n∈DataW.weightsEach P (ts++us) (ds++gs)
 |t::ts,us,d::ds,gs,n,h=>by
  simp only[DataW.weightsEach,cB,cH]at h⊢
  exact h.imp id Zdj
 |[],_,_,_,_,h=>by simp[DataW.weightsEach]at h
 |_::_,_,[],_,_,h=>by simp[DataW.weightsEach]at h
theorem Zyj{f:FuncId}{fn:Func}{s:ChangeSpec}{tb:TypeId}{sig:List (Bool×List lG)}(hl:laidOutB P=true)(hS:tt P n fn.params.toList sig)(lr:fn.resultTypes= #[tb])(htb:P.underlying tb=some .bool)(Hs:s.vars=[])
 (I2:∀ds:List (DataW H),ds.length=fn.params.toList.length->(s.fn H ds).results=[.lit (.bool true)]/\(s.fn H ds).args=ds/\(s.fn H ds).vars=[]) (Y0:∀Ds,lR sig Ds->kM P f Ds [] (.bool true) [])
 {apart:Bool} (W:World) (base:Nat) (args:Array Value) (ds gs:List (DataW H)) (before:List MemPlace) (Y1:∀(j:Nat) t v,fn.params[j]?=some t->args[j]?=some v->Value.okWide P W .any base t v) (hW:DataW.Whole enc P fn.params.toList s.vars apart W args.toList ds gs before)
 (ga:(DataW.weightsEach P (fn.params.toList++s.plain.varTypes P) (ds++gs)).all (· <=reachBytes)=true) (ht:Ba (λb=>b<W.heap.size) W):
 Calls P f args W λe W'=>∃v,e=.returned v/\ChangeSpec.post enc P fn s apart true false false W args v W':=by
 have hW':=hW
 obtain⟨p,q,hA,hV,rfl,Ft,lH⟩:=hW
 rw[Hs]at hV
 obtain⟨rfl,rfl⟩:=trodVars_none hV
 obtain⟨hlen,Ds,hf,hr⟩:=Zog hS (λj t v a b=>Y1 j t v (by simpa using a) (by simpa using b)) hA (λn hn=>by simpa using List.all_eq_true.1 ga n (Zdj hn))
 obtain⟨s1,s2,s3⟩:=I2 ds hlen
 have hw:=vI (Y0 Ds hf) hr ht
 rw[Array.toArray_toList]at hw
 refine hw.mono λe W' ⟨he,OP⟩=>?_
 subst he
 refine⟨_,rfl,ds,[],_,[],p,[],hW',?_,?_,?_,OP.frame _,λh=>by cases h⟩
 ·rw[lr,cM,s1]
  exact trodAll_mk1 (shut_bool htb _)
 ·rw[cM,s2]
  exact Zpk hl OP hS hA
 ·rw[cM,s3,Hs]
  rfl
