import Derived.Test.YtaemmjbkndlkeaaGreatMigrateOrdersFc
import Derived.Below
import Derived.DataReads
import Derived.ChangeArms
import Derived.SizedLaws
import Derived.ProofKit
import Derived.OpenShut
import Derived.ShutString
import Derived.ChangeOld
import Derived.Carry
import Derived.Lib.LaidTab
open Nat renaming beq->bX
open List renaming map_map->bY,map_congr_left->bQ,map_id->cG,cons_append->cH,getD->aV,mem_append->cB,take_add->cI,drop_drop->cJ,getElem?_eq_getElem->aI,mem_map_of_mem->cK,getElem?_of_mem->cL,append_nil->cM
set_option linter.all false
namespace Go.GD
open Go
variable {w:World}
def Ctx.all(w:World):Ctx:={ρ:=λr=>r,R:=λ_=>none,V:=λ_=>False,I:=λb=>b<w.heap.size,base:=w.heap.size,top:=w.heap.size,X:=λ_=>False}
theorem xad(w:World)(ht:Ap (λb=>b<w.heap.size) w):Mem (Ctx.all w) w:=⟨λr row h=>by simp[Ctx.all]at h,λr s x y h=>by simp[Ctx.all]at h,λb hb=>⟨hb,λr x h=>by simp[Ctx.all]at h⟩,Nat.le_refl _,ht⟩
theorem xH{P:Program}{f:FuncId}{args:List D}{vs:List Value}(h:kq P f args [] (.bool true) [])(ha:kd (Ctx.all w) w args vs)(ht:Ap (λb=>b<w.heap.size) w):
 Calls P f vs.toArray w λe w'=>e=.returned (.bool true)/\RowKit.Below w.heap.size w w':=by
 refine(h (Ctx.all w) w vs (xad w ht) rfl (λr=>by simp[Ctx.all]) ha).mono λe w' hq=>?_
 obtain⟨v,c',he,hn,_,hr⟩:=hq
 have hv:v=.bool true:=hr
 subst hv
 exact⟨he,hn.fr.os,hn.fr.tape,hn.fr.output,hn.fr.size,λk hk=>hn.fr.heap k hk fun⟨r,x,hr,_⟩=>by simp[Ctx.all]at hr⟩
theorem qae{b:Nat}{o:Obj}(h:w.heap[b]?=some o):b<w.heap.size:=by
 by_cases bd:b<w.heap.size
 ·exact bd
 ·rw[Array.getElem?_eq_none (by omega)]at h;cases h
inductive lM where
 |int (k:IntKind)
 |bool
 |str
 |sl (cells:List lM)
def lM.bytes:lM->Nat
 |.int k=>match k with|.i8=>1|.u8=>1|.i16=>2|.u16=>2|.i32=>4|.u32=>4|_=>8
 |.bool=>1
 |.str=>16
 |.sl _=>24
def KC:List lM->Nat
 |[]=>0
 |t::l=>t.bytes+KC l
def sD:Nat->List lM->List lM
 |0,_=>[]
 |n+1,l=>l++sD n l
def Nw(P:Program)(g:TypeId->Option (List lM)):List Field->Nat->Option (List lM)
 |[],_=>some []
 |f::l,off=>match g f.type,Nw P g l (off+P.cellsOf f.type)with
  |some a,some b=>match bX f.offset off&&bX a.length (P.cellsOf f.type)with|true=>some (a++b)|false=>none
  |_,_=>none
def ow(P:Program):Nat->TypeId->Option (List lM)
 |0,_=>none
 |f +1,t=>match P.underlying t with
  |some .bool=>some [.bool]
  |some (.int k)=>some [.int k]
  |some .string=>some [.str]
  |some (.slice e)=>match ow P f e with
   |some l=>match bX l.length (P.cellsOf e)&&(Nat.blt 0 l.length&&Nat.ble (KC l) (P.bytesOf e))with|true=>some [.sl l]|false=>none
   |none=>none
  |some (.struct fs)=>match Nw P (ow P f) fs.toList 0 with
   |some l=>match bX l.length (P.cellsOf t)with|true=>some l|false=>none
   |none=>none
  |some (.array n e)=>match ow P f e with
   |some l=>match bX l.length (P.cellsOf e)&&bX (sD n l).length (P.cellsOf t)with|true=>some (sD n l)|false=>none
   |none=>none
  |_=>none
def KD:List lM->List (List D)->ai
 |[.int k],es=>.ints k (es.map λe=>(e.getD 0 .dead).toInt)
 |[.bool],es=>.ag (es.map λe=>(e.getD 0 .dead).toBool)
 |_,es=>.gen es
mutual
def Fit:lM->D->Prop
 |.int k,d=>∃n,d=.int k n/\k.min<=n/\n<=k.max
 |.bool,d=>∃b,d=.bool b
 |.str,d=>∃s,d=.str s/\s.length<=reachBytes
 |.sl ts,d=>∃es,d=.sl ts.length (KD ts es) false/\es.length*KC ts<=reachBytes/\∀e∈es,Fits ts e
def Fits:List lM->List D->Prop
 |[],[]=>True
 |t::ts,d::ds=>Fit t d/\Fits ts ds
 |_,_=>False
end
theorem Zps{ts:List lM}{es:List (List D)}(h:∀e∈es,Fits ts e):(KD ts es).l=es:=by
 unfold KD
 split
 ·simp only[ai.l,bY]
  refine(bQ λe he=>?_).trans (cG _)
  have:=h e he
  match e,this with
  |[d],this=>
   simp only[Fits,Fit]at this
   obtain⟨⟨n,rfl,_⟩,_⟩:=this
   rfl
  |[],this=>simp[Fits]at this
  |d::_::_,this=>simp[Fits]at this
 ·simp only[ai.l,bY]
  refine(bQ λe he=>?_).trans (cG _)
  have:=h e he
  match e,this with
  |[d],this=>
   simp only[Fits,Fit]at this
   obtain⟨⟨n,rfl⟩,_⟩:=this
   rfl
  |[],this=>simp[Fits]at this
  |d::_::_,this=>simp[Fits]at this
 ·rfl
theorem Zp9{k:IntKind}{d:D}(h:Fit (.sl [.int k]) d):∃l:List Int,d=.sl 1 (.ints k l) false/\l.length*(lM.int k).bytes<=reachBytes/\∀n∈l,k.min<=n/\n<=k.max:=by
 unfold Fit at h
 obtain⟨es,rfl,hl,h⟩:=h
 refine⟨_,rfl,by simpa[KC]using hl,λn hn=>?_⟩
 simp only[List.mem_map]at hn
 obtain⟨e,he,rfl⟩:=hn
 have:=h e he
 match e,this with
 |[d],this=>
  simp only[Fits,Fit]at this
  obtain⟨⟨n,rfl,h1⟩,_⟩:=this
  exact h1
 |[],this=>simp[Fits]at this
 |d::_::_,this=>simp[Fits]at this
def nI(I:ae)(w:World):List D->List Value->Prop
 |[],[]=>True
 |d::ds,v::vs=>fy I w d v/\nI I w ds vs
 |_,_=>False
theorem nI.length{I:ae}{w:World}:∀{ds:List D} {vs:List Value},nI I w ds vs->ds.length=vs.length
 |[],[],_=>rfl
 |_::_,_::_,h=>by simp[nI.length h.2]
 |[],_::_,h=>h.elim
 |_::_,[],h=>h.elim
theorem nI.append{I:ae}{w:World}:∀{ds es:List D} {vs us:List Value},nI I w ds vs->nI I w es us->nI I w (ds++es) (vs++us)
 |[],_,[],_,_,h=>h
 |_::_,_,_::_,_,h,g=>⟨h.1,nI.append h.2 g⟩
 |[],_,_::_,_,h,_=>h.elim
 |_::_,_,[],_,h,_=>h.elim
theorem Fits.length:∀{ts:List lM} {ds:List D},Fits ts ds->ts.length=ds.length
 |[],[],_=>rfl
 |_::_,_::_,h=>by unfold Fits at h;simp[Fits.length h.2]
 |[],_::_,h=>by unfold Fits at h;exact h.elim
 |_::_,[],h=>by unfold Fits at h;exact h.elim
theorem Fits.append:∀{ts us:List lM} {ds es:List D},Fits ts ds->Fits us es->Fits (ts++us) (ds++es)
 |[],_,[],_,_,h=>h
 |_::_,_,_::_,_,h,g=>by unfold Fits at h;simp only[cH];unfold Fits;exact⟨h.1,Fits.append h.2 g⟩
 |[],_,_::_,_,h,_=>by unfold Fits at h;exact h.elim
 |_::_,_,[],_,h,_=>by unfold Fits at h;exact h.elim
theorem S0{α β:Type}{f:α->Option β}:∀{l:List α} {r:List β},l.mapM f=some r->r.length=l.length/\∀(j:Nat) (x:α),l[j]?=some x->∃y,f x=some y/\r[j]?=some y
 |[],r,h=>by simp at h;subst h;exact⟨rfl,λj x hj=>by simp at hj⟩
 |a ::l,r,h=>by
  rw[List.mapM_cons]at h
  cases hf:f a with
  |none=>rw[hf]at h;cases h
  |some y=>
   cases hl:l.mapM f with
   |none=>rw[hf,hl]at h;cases h
   |some ys=>
    rw[hf,hl]at h
    have:r=y::ys:=by simpa using h.symm
    subst this
    obtain⟨h1,h2⟩:=S0 hl
    refine⟨by simp[h1],λj x hj=>?_⟩
    cases j with
    |zero=>simp at hj;subst hj;exact⟨y,hf,rfl⟩
    |succ j=>simp at hj;obtain⟨z,hz⟩:=h2 j x hj;exact⟨z,hz.1,by simpa using hz.2⟩
theorem Z7g{Q:Nat->List D->Prop}:∀(n:Nat),(∀i,i<n->∃e,Q i e)->∃es:List (List D),es.length=n/\∀i,i<n->Q i (es.getD i [])
 |0,_=>⟨[],rfl,λi h=>by omega⟩
 |n +1,h=>by
  obtain⟨es,h1,h2⟩:=Z7g n λi hi=>h i (by omega)
  obtain⟨e,he⟩:=h n (by omega)
  refine⟨es++[e],by simp[h1],λi hi=>?_⟩
  by_cases bd:i<n
  ·have:=h2 i bd
   simpa[aV,List.getElem?_append_left (show i<es.length by omega)]using this
  ·have:i=n:=by omega
   subst this
   simpa[aV,List.getElem?_append_right (show es.length<=i by omega),h1]using he
theorem Zgw{I:ae}{w:World}{arr:Array Value}{sz:Nat}:∀{es:List (List D)} {off:Nat},(∀i,i<es.length->(es.getD i []).length=sz/\oP I w (es.getD i []) arr (off+i*sz))->ik I w es arr off sz
 |[],_,_=>.nil _ _ _
 |e::es,off,h=>by
  have h0:=h 0 (by simp)
  refine .cons _ _ _ _ _ (by simpa using h0.1) (by simpa using h0.2) (Zgw λi hi=>?_)
  have:=h (i+1) (by simpa using hi)
  have e1:off+sz+i*sz=off+(i+1)*sz:=by rw[Nat.add_mul];omega
  rw[e1]
  simpa using this
theorem Zjb{I:ae}{w:World}{arr:Array Value}:∀{ds:List D} {vs:List Value} {off:Nat},nI I w ds vs->(∀j,j<vs.length->arr[off+j]?=vs[j]?)->oP I w ds arr off
 |[],[],_,_,_=>.nil _ _
 |d::ds,v::vs,off,h,hc=>by
  refine .cons _ _ _ _ v (by simpa using hc 0 (by simp)) h.1 (Zjb h.2 λj hj=>?_)
  have:=hc (j+1) (by simpa using hj)
  rw[show off+1+j=off+(j+1) by omega]
  simpa using this
 |[],_::_,_,h,_=>h.elim
 |_::_,[],_,h,_=>h.elim
section
variable {H:Type} {enc:TypeId×Value->H} {P:Program} {w:World}
theorem WO{t:TypeId}:∀{ds:List (DataW H)} {d:DataW H},d∈ds->∀n∈d.weights P t,n∈DataW.weightsAll P t ds
 |d0::ds,d,hd,n,hn=>by
  simp only[DataW.weightsAll,cB]
  rcases List.mem_cons.1 hd with rfl|hd
  ·exact .inl hn
  ·exact .inr (WO hd n hn)
 |[],_,hd,_,_=>by simp at hd
def KE(P:Program)(t:TypeId)(d:DataW H):Prop:=∀n∈d.weights P t,n<=reachBytes
theorem Z8h{g:TypeId->Option (List lM)}{fuel:Nat}{cs:List Value}(ih:∀t cs x dj,DataW.trod enc P w 0 (λ_=>true) true fuel t cs=some x->KE P t x.1->g t=some dj->∃ds,Fits dj ds/\nI (Ctx.all w).I w ds cs):
 ∀ (l:List Field) (off:Nat) (dj:List lM),(∀f∈l,∃y,DataW.trod enc P w 0 (λ_=>true) true fuel f.type ((cs.drop f.offset).take (P.cellsOf f.type))=some y/\KE P f.type y.1)->Nw P g l off=some dj->
  ∃ds,Fits dj ds/\nI (Ctx.all w).I w ds ((cs.drop off).take dj.length)
 |[],off,dj,_,h=>by simp[Nw]at h;subst h;exact⟨[],by unfold Fits;trivial,by simp[nI]⟩
 |f ::l,off,dj,hl,h=>by
  simp only[Nw]at h
  split at h
  ·rename_i a b ha hb
   split at h
   ·rename_i hc
    simp only[aE]at hc
    have h1:=bE hc.1
    have h2:=bE hc.2
    cases h
    obtain⟨y,hy,hz⟩:=hl f (by simp)
    obtain⟨ds,hd,hr⟩:=ih _ _ _ _ hy hz ha
    obtain⟨es,he,hs⟩:=Z8h ih l _ b (λf hf=>hl f (by simp[hf])) hb
    refine⟨ds++es,hd.append he,?_⟩
    rw[h1,<-h2]at hr
    rw[<-h2]at hs
    rw[lA,cI,cJ]
    exact hr.append hs
   ·cases h
  ·cases h
theorem Zhe{fuel:Nat}{e:TypeId}{cs:List Value}{l:List lM}(ih:∀cs x,DataW.trod enc P w 0 (λ_=>true) true fuel e cs=some x->KE P e x.1->∃ds,Fits l ds/\nI (Ctx.all w).I w ds cs)(hl:l.length=P.cellsOf e):
 ∀ (n off:Nat),(∀i,i<n->∃y,DataW.trod enc P w 0 (λ_=>true) true fuel e ((cs.drop (off+i*P.cellsOf e)).take (P.cellsOf e))=some y/\KE P e y.1)->
  ∃ds,Fits (sD n l) ds/\nI (Ctx.all w).I w ds ((cs.drop off).take (sD n l).length)
 |0,off,_=>⟨[],by unfold sD Fits;trivial,by simp[nI,sD]⟩
 |n +1,off,h=>by
  obtain⟨y,hy,hz⟩:=h 0 (by omega)
  obtain⟨ds,hd,hr⟩:=ih _ _ hy hz
  obtain⟨es,he,hs⟩:=Zhe ih hl n (off+P.cellsOf e) λi hi=>by
   have:=h (i+1) (by omega)
   rwa [show off+P.cellsOf e+i*P.cellsOf e=off+(i+1)*P.cellsOf e by rw[Nat.add_mul];omega]
  refine⟨ds++es,hd.append he,?_⟩
  simp only[sD]
  rw[lA,cI,cJ,hl]
  exact(by simpa using hr:nI (Ctx.all w).I w ds _).append hs
theorem S1 : ∀(f fuel:Nat) (t:TypeId) (cs:List Value) (x:DataW H×List MemPlace) (dj:List lM),DataW.trod enc P w 0 (λ_=>true) true fuel t cs=some x->KE P t x.1->ow P f t=some dj-> ∃ds,Fits dj ds/\nI (Ctx.all w).I w ds cs
  |0,_,_,_,_,_,_,_,h=>by simp [ow]at h
  |f+1,0,_,_,_,_,h,_,_=>by simp [DataW.trod]at h
  | f + 1, fuel + 1,t,cs,x,dj,h,hz,hs=>by
    simp only[ow]at hs
    split at hs
    . rename_i hu
      cases hs
      obtain⟨b,rfl,_⟩:=DataW.trod_bool hu h
      exact⟨[.bool b],by simp [Fits,Fit],by simp [nI,se,si,sj,sk,sn,so,tC,tZ,ua,ub,uc,ud,ue,uf,ug,uh]⟩
    . rename_i k hu
      cases hs
      obtain⟨n,rfl,_,hw⟩:=DataW.trod_int hu h
      simp only[Lit.wf,aE,decide_eq_true_eq]at hw
      exact⟨[.int k n],by simp [Fits,Fit,hw],by simp [nI,se,si,sj,sk,sn,so,tC,tZ,ua,ub,uc,ud,ue,uf,ug,uh]⟩
    . rename_i hu
      cases hs
      obtain⟨s,rfl,hx,fp⟩:=DataW.trod_string hu h
      have hb:s.data.toList.length<=reachBytes:=hz _ (by rw[hx];simp [DataW.weights])
      refine⟨[.str s.data.toList],?_,?_⟩
      . simp only[Fits,Fit]
        exact⟨⟨_,rfl,hb⟩,trivial⟩
      . simp [nI,se,si,sj,sk,sn,so,tC,tZ,ua,ub,uc,ud,ue,uf,ug,uh]
    . rename_i e hu
      split at hs
      . rename_i l hl
        split at hs
        . rename_i hc
          cases hs
          simp only[aE]at hc
          have h1:=bE hc.1
          have h2:0<l.length:=lE hc.2.1
          have h3:KC l<=P.bytesOf e:=lE hc.2.2
          rcases DataW.trod_slice hu h with⟨rfl,_⟩|⟨a,len,cap,elems,rest,n,hn,rfl,hx,_,hlc,Aq,Gt,ir,_⟩
          . have GK:(KD l []).l=[]:=Zps (λe he=>by simp at he)
            refine⟨[.sl l.length (KD l []) false],?_,?_⟩
            . simp only[Fits,Fit]
              exact⟨⟨[],rfl,by simp,by simp⟩,trivial⟩
            . simp only[nI,se,si,sj,sk,sn,so,tC,tZ,ua,ub,uc,ud,ue,uf,ug,uh]
              exact⟨⟨none,0,by rw[GK];rfl,by rw[GK];exact Nat.le_refl _, .inl GK⟩,trivial⟩
          . have hn:n=fuel:=by omega
            subst hn
            have each: ∀i,i<len-> ∃e',Fits l e'/\ ∃vs,nI (Ctx.all w).I w e' vs/\w.cells? 0 (a.add (i*P.cellsOf e)) (P.cellsOf e)=some vs:=λi hi=>by
              have:=ir i hi
              rw[aI (by omega)]at this
              cases BV:w.cells? 0 (a.add (i*P.cellsOf e)) (P.cellsOf e) with
              |none=>rw[BV]at this;cases this
              | some vs=>
                rw[BV]at this
                obtain⟨ds,hd,hr⟩:=S1 f n e vs _ l this (λm hm=>hz m (by
                  rw[hx]
                  simp only[DataW.weights,hu,List.mem_cons,cB]
                  exact .inr (.inl (WO (cK (List.getElem_mem _)) m hm)))) hl
                exact⟨ds,hd,vs,hr,rfl⟩
            obtain⟨es,gy,hE⟩:=Z7g len each
            have mP: ∀e'∈es,Fits l e':=λe' Aa=>by
              obtain⟨i,hi⟩:=cL Aa
              have bd:=(List.getElem?_eq_some_iff.1 hi).1
              have:=(hE i (by omega)).1
              rwa [aV,hi]at this
            have jm:=Zps mP
            refine⟨[.sl l.length (KD l es) false],?_,?_⟩
            . simp only[Fits,Fit]
              refine⟨⟨es,rfl,?_,mP⟩,trivial⟩
              have hb:(elems.length+rest.length)*P.bytesOf e<=reachBytes:=hz _ (by rw[hx];simp [DataW.weights,hu])
              have h4:es.length*KC l<=(elems.length+rest.length)*P.bytesOf e:=Nat.mul_le_mul (by omega) h3
              omega
            . simp only[nI,se,si,sj,sk,sn,so,tC,tZ,ua,ub,uc,ud,ue,uf,ug,uh,S2,jm]
              refine⟨⟨some a,cap,by rw[gy],by omega,?_⟩,trivial⟩
              by_cases hz:len=0
              . left;exact List.eq_nil_of_length_eq_zero (by omega)
              . right
                have cellAt: ∀i vs,w.cells? 0 (a.add (i*P.cellsOf e)) (P.cellsOf e)=some vs->vs.length=P.cellsOf e/\ ∀j,j<P.cellsOf e->w.cell? ((a.add (i*P.cellsOf e)).add j)=vs[j]? :=λi vs BQ=>by
                  simp only[World.cells?,Nat.zero_le,if_true]at BQ
                  obtain⟨g1,g2⟩:=S0 BQ
                  refine⟨by simpa using g1,λj hj=> ?_⟩
                  obtain⟨y,hy,Ag⟩:=g2 j j (by simp [hj])
                  rw[hy,Ag]
                obtain⟨_,S3,hr0,GK⟩:=hE 0 (by omega)
                have h0:=(cellAt 0 S3 GK).2 0 (by omega)
                have DO: ∃v,S3[0]? =some v:=⟨S3[0]'(by have:=(cellAt 0 S3 GK).1;omega),aI _⟩
                obtain⟨v0,DO⟩:=DO
                rw[DO]at h0
                have H2:=World.cell?_spot h0
                obtain⟨b,off,sp⟩:=a
                simp only[Addr.add,Nat.zero_mul,if_true]at H2 h0
                subst H2
                have hb: ∃arr ty fz,w.heap[b]? =some (.cells arr ty fz):=by
                  unfold World.cell? at h0
                  split at h0
                  . rename_i arr ty fz he;exact⟨arr,ty,fz,he⟩
                  . cases h0
                obtain⟨arr,ty,fz,he⟩:=hb
                refine⟨b,off,arr,ty,fz,rfl,qae he,he,Zgw λi hi=> ?_⟩
                obtain⟨hf,vs,hr,BV⟩:=hE i (by omega)
                obtain⟨k1,k2⟩:=cellAt i vs BV
                refine⟨hf.length.symm,Zjb hr λj hj=> ?_⟩
                have:=k2 j (by omega)
                rw[<-this,h1]
                have e1:(((⟨b,off,none⟩:Addr).add (i*P.cellsOf e)).add j)=⟨b,off+i*P.cellsOf e+j,none⟩:=by
                  unfold Addr.add
                  split<;>split<;>simp_all
                rw[e1]
                unfold World.cell?
                simp [he]
        . cases hs
      . cases hs
    . rename_i fs hu
      split at hs
      . rename_i l hl
        split at hs
        . rename_i hc
          cases hs
          have hc:=bE hc
          unfold DataW.trod at h
          rw[hu]at h
          simp only at h
          split at h
          . rename_i hlen
            cases hm:fs.toList.mapM λf=>DataW.trod enc P w 0 (λ_=>true) true fuel f.type ((cs.drop f.offset).take (P.cellsOf f.type)) with
            |none=>rw[hm]at h;cases h
            | some r=>
              obtain⟨_,hg⟩:=S0 hm
              rw[hm]at h
              have hx:x=(.agg (r.map (·.1)),r.flatMap (·.2)):=by simpa using h.symm
              obtain⟨ds,hd,hr⟩:=Z8h (g:=ow P f) (λt cs x dj=>S1 f fuel t cs x dj) fs.toList 0 dj (λfd hf=>by
                obtain⟨j,hj⟩:=cL hf
                obtain⟨y,hy,WQ⟩:=hg j fd hj
                refine⟨y,hy,λm mw=>hz m ?_⟩
                rw[hx]
                simp only[DataW.weights,hu]
                exact DataW.weights_mem_each (j:=j) (by simp [hj]) (by simp [WQ]) m mw) hl
              refine⟨ds,hd,?_⟩
              rw[hc,<-hlen]at hr
              simpa using hr
          . cases h
        . cases hs
      . cases hs
    . rename_i n e hu
      split at hs
      . rename_i l hl
        split at hs
        . rename_i hc
          simp only[Option.some.injEq]at hs
          simp only[aE]at hc
          have h1:=bE hc.1
          have h2:=bE hc.2
          subst hs
          unfold DataW.trod at h
          rw[hu]at h
          simp only at h
          split at h
          . rename_i hlen
            cases hm:(List.range n).mapM λi=>DataW.trod enc P w 0 (λ_=>true) true fuel e ((cs.drop (i*P.cellsOf e)).take (P.cellsOf e)) with
            |none=>rw[hm]at h;cases h
            | some r=>
              obtain⟨_,hg⟩:=S0 hm
              rw[hm]at h
              have hx:x=(.agg (r.map (·.1)),r.flatMap (·.2)):=by simpa using h.symm
              obtain⟨ds,hd,hr⟩:=Zhe (l:=l) (λcs x hx hz=>S1 f fuel e cs x l hx hz hl) h1 n 0 (λi hi=>by
                obtain⟨y,hy,WQ⟩:=hg i i (by simp [hi])
                refine⟨y,by simpa using hy,λm mw=>hz m ?_⟩
                rw[hx]
                simp only[DataW.weights,hu]
                exact WO (cK (List.mem_of_getElem? WQ)) m mw)
              refine⟨ds,hd,?_⟩
              rw[h2,<-hlen]at hr
              simpa using hr
          . cases h
        . cases hs
      . cases hs
    . cases hs
end
end Go.GD
namespace Go.GD
open Go Go.ChangeShapes Go.RowKit
variable {Ds:List D}{d:D}{n:Nat}{v:Value}
def uo(P:Program)(t:TypeId):Bool:=match P.underlying t with|some (.struct _)=>true|some (.array _ _)=>true|_=>false
def lq:List (Bool×List lM)->List D->Prop
 |[],[]=>True
 |(true,dj)::l,d::ds=>(∃es,d=.agg es/\Fits dj es)/\lq l ds
 |(false,dj)::l,d::ds=>Fits dj [d]/\lq l ds
 |_,_=>False
theorem S4{dj:List lM}{l:List (Bool×List lM)}(h:lq ((false,dj)::l) Ds):∃d ds,Ds=d::ds/\Fits dj [d]/\lq l ds:=by
 cases Ds with
 |nil=>unfold lq at h;exact h.elim
 |cons d ds=>unfold lq at h;exact⟨d,ds,rfl,h⟩
theorem zH(h:lq [] Ds):Ds=[]:=by
 cases Ds with
 |nil=>rfl
 |cons d ds=>unfold lq at h;exact h.elim
theorem S5{t:lM}(h:Fits [t] [d]):Fit t d:=by unfold Fits at h;exact h.1
theorem zd{k:IntKind}(h:Fit (.int k) d):∃n,d=.int k n/\k.min<=n/\n<=k.max:=by unfold Fit at h;exact h
def sE(P:Program)(n:Nat):List TypeId->List (Bool×List lM)->Prop
 |[],[]=>True
 |t::ts,(b,dj)::l=>ow P n t=some dj/\uo P t=b/\P.readableRec t=true/\t<P.types.size/\sE P n ts l
 |_,_=>False
theorem zae{w:World}{t:lM}(hf:Fit t d)(h:fy (Ctx.all w).I w d v):dc (Ctx.all w) w d v:=by
 cases t with
 |int k=>unfold Fit at hf;obtain⟨n,rfl,_⟩:=hf;exact si.1 h
 |bool=>unfold Fit at hf;obtain⟨n,rfl⟩:=hf;exact se.1 h
 |str=>unfold Fit at hf;obtain⟨n,rfl,_⟩:=hf;exact sj.1 h
 |sl ts=>
  unfold Fit at hf
  obtain⟨es,rfl,_⟩:=hf
  simp only[se,si,sj,sk,sn,so,tC,tZ,ua,ub,uc,ud,ue,uf,ug,uh]at h
  obtain⟨a,cap,h1,h2,h3⟩:=h
  refine⟨a,cap,h1,h2,?_⟩
  rcases h3 with h3|⟨b,off,arr,ty,fz,g0,g1,g2,g3⟩
  ·exact .inl h3
  ·exact .inr ⟨b,off,arr,ty,fz,g0,g1,(λe=>by cases e),g2,S2.1 g3⟩
theorem WR{w:World}:∀{ts:List lM} {ds:List D} {vs:List Value},Fits ts ds->nI (Ctx.all w).I w ds vs->jk (Ctx.all w) w ds vs
 |[],[],[],_,_=>trivial
 |t::ts,d::ds,v::vs,hf,h=>by unfold Fits at hf;exact⟨zae hf.1 h.1,WR hf.2 h.2⟩
 |[],[],_::_,_,h=>h.elim
 |_,_::_,[],_,h=>h.elim
 |[],_::_,_,hf,_=>by unfold Fits at hf;exact hf.elim
 |_::_,[],_,hf,_=>by unfold Fits at hf;exact hf.elim
section
variable {H:Type} {enc:TypeId×Value->H} {P:Program} {w:World}
theorem yH{t:TypeId}{dj:List lM}{b:Bool}{base:Nat}{d:DataW H}{p:List MemPlace}(hs:ow P n t=some dj)(hb:uo P t=b)(hv:Value.okWide P w .any base t v)(h:DataW.Trod enc P w 0 (λ_=>true) true t v d p)(hz:KE P t d):
 ∃D',lq [(b,dj)] [D']/\VRep (Ctx.all w) w D' v:=by
 obtain⟨fuel,h⟩:=h
 obtain⟨ds,hd,hr⟩:=S1 n fuel t _ _ dj h hz hs
 unfold uo at hb
 cases b with
 |true=>
  have uq:∃cs,v=.agg cs:=by
   unfold Value.okWide at hv
   split at hb
   ·rename_i hu;rw[hu]at hv;obtain⟨cs,h1,_⟩:=hv;exact⟨cs,h1⟩
   ·rename_i hu;rw[hu]at hv;obtain⟨cs,h1,_⟩:=hv;exact⟨cs,h1⟩
   ·cases hb
  obtain⟨cs,rfl⟩:=uq
  refine⟨.agg ds,by simp only[lq];exact⟨⟨ds,rfl,hd⟩,trivial⟩,cs.toList,by simp,?_⟩
  exact WR hd (by simpa[Value.cells]using hr)
 |false =>
  have nh:v.cells.toList=[v]/\dj.length=1:=by
   cases n with
   |zero=>simp[ow]at hs
   |succ n=>
    simp only[ow]at hs
    unfold Value.okWide at hv
    split at hs
    ·rename_i hu;cases hs;rw[hu]at hv;simp only[Cell.okWide,hu]at hv;cases v<;>simp_all [Cell.ok,Value.cells]
    ·rename_i hu;cases hs;rw[hu]at hv;simp only[Cell.okWide,hu]at hv;cases v<;>simp_all [Cell.ok,Value.cells]
    ·rename_i hu;cases hs;rw[hu]at hv;simp only[Cell.okWide,hu]at hv;cases v<;>simp_all [Cell.ok,Value.cells]
    ·rename_i hu
     split at hs
     ·split at hs
      ·cases hs;rw[hu]at hv;simp only[Cell.okWide,hu]at hv;cases v<;>simp_all [Cell.ok,Value.cells]
      ·cases hs
     ·cases hs
    ·rename_i hu;rw[hu]at hb;cases hb
    ·rename_i hu;rw[hu]at hb;cases hb
    ·cases hs
  rw[nh.1]at hr
  match dj,ds,hd,hr,nh.2 with
  |[t],[d],hd,hr,_=>
   refine⟨d,by simp only[lq];exact⟨hd,trivial⟩,?_⟩
   have:=(WR hd hr).1
   cases d<;>first|exact this|exact this.elim
  |[t],_::_::_,hd,hr,_=>exact hr.2.elim
  |[t],[],hd,hr,_=>exact hr.elim
theorem Zjw{n:Nat}{base:Nat}:∀{ts:List TypeId} {sig:List (Bool×List lM)} {vs:List Value} {ds:List (DataW H)} {p:List MemPlace},sE P n ts sig->(∀(j:Nat) t v,ts[j]?=some t->vs[j]?=some v->Value.okWide P w .any base t v)->DataW.TrodAll enc P w 0 (λ_=>true) true ts vs ds p->(∀n∈DataW.weightsEach P ts ds,n<=reachBytes)->
 ds.length=ts.length/\∃Ds,lq sig Ds/\kd (Ctx.all w) w Ds vs
 |[],[],[],[],_,_,_,_,_=>⟨rfl,[],trivial,trivial⟩
 |t::ts,(b,dj)::sig,v::vs,d::ds,p,hS,hv,h,hz=>by
  obtain⟨h1,h2,h3,h4,h5⟩:=hS
  obtain⟨p1,p2,g1,g2,rfl⟩:=h
  obtain⟨D',hf,hr⟩:=yH h1 h2 (hv 0 t v rfl rfl) g1 (λn hn=>hz n (by simp only[DataW.weightsEach,cB];exact .inl hn))
  obtain⟨hl,Ds,Nx,hrs⟩:=Zjw h5 (λj t v a b=>hv (j+1) t v (by simpa using a) (by simpa using b)) g2 (λn hn=>hz n (by simp only[DataW.weightsEach,cB];exact .inr hn))
  refine⟨by simp[hl],D'::Ds,?_,hr,hrs⟩
  cases b
  ·simp only[lq]at hf⊢;exact⟨hf.1,Nx⟩
  ·simp only[lq]at hf⊢;exact⟨hf.1,Nx⟩
 |[],[],_::_,_,_,_,_,h,_=>by simp[DataW.TrodAll]at h
 |[],[],[],_::_,_,_,_,h,_=>by simp[DataW.TrodAll]at h
 |_::_,_,[],_,_,_,_,h,_=>by simp[DataW.TrodAll]at h
 |_::_,_,_::_,[],_,_,_,h,_=>by simp[DataW.TrodAll]at h
 |[],_::_,_,_,_,h,_,_,_=>h.elim
 |_::_,[],_,_,_,h,_,_,_=>h.elim
theorem Zhy{w':World}{n:Nat}(hl:laidOutB P=true)(Ny:Below w.heap.size w w'):∀{ts:List TypeId} {sig:List (Bool×List lM)} {vs:List Value} {ds:List (DataW H)} {p:List MemPlace},sE P n ts sig->DataW.TrodAll enc P w 0 (λ_=>true) true ts vs ds p->
 DataW.TrodAll enc P w' 0 (λb=>decide (b<w.heap.size)) true ts vs ds p
 |[],[],[],[],_,_,h=>h
 |t::ts,(b,dj)::sig,v::vs,d::ds,p,hS,h=>by
  obtain⟨h1,h2,h3,h4,h5⟩:=hS
  obtain⟨p1,p2,g1,g2,rfl⟩:=h
  refine trodAll_cons_mk (Below.trod hl h3 h4 g1 Ny λx hx=>?_) (Zhy hl Ny h5 g2)
  obtain⟨m,hm⟩:=g1
  exact DataW.trod_lt m _ _ _ hm x hx
 |[],[],_::_,_,_,_,h=>by simp[DataW.TrodAll]at h
 |[],[],[],_::_,_,_,h=>by simp[DataW.TrodAll]at h
 |_::_,_,[],_,_,_,h=>by simp[DataW.TrodAll]at h
 |_::_,_,_::_,[],_,_,h=>by simp[DataW.TrodAll]at h
 |[],_::_,_,_,_,h,_=>h.elim
 |_::_,[],_,_,_,h,_=>h.elim
theorem Z89:∀{ts us:List TypeId} {ds gs:List (DataW H)} {n:Nat},n∈DataW.weightsEach P ts ds->n∈DataW.weightsEach P (ts++us) (ds++gs)
 |t::ts,us,d::ds,gs,n,h=>by
  simp only[DataW.weightsEach,cB,cH]at h⊢
  exact h.imp id Z89
 |[],_,_,_,_,h=>by simp[DataW.weightsEach]at h
 |_::_,_,[],_,_,h=>by simp[DataW.weightsEach]at h
theorem Zso{f:FuncId}{fn:Func}{s:ChangeSpec}{tb:TypeId}{sig:List (Bool×List lM)}(hl:laidOutB P=true)(hS:sE P n fn.params.toList sig)(kP:fn.resultTypes= #[tb])(htb:P.underlying tb=some .bool)(GL:s.vars=[])
 (H2:∀ds:List (DataW H),ds.length=fn.params.toList.length->(s.fn H ds).results=[.lit (.bool true)]/\(s.fn H ds).args=ds/\(s.fn H ds).vars=[]) (WS:∀Ds,lq sig Ds->kq P f Ds [] (.bool true) [])
 {apart:Bool} (W:World) (base:Nat) (args:Array Value) (ds gs:List (DataW H)) (before:List MemPlace) (WT:∀(j:Nat) t v,fn.params[j]?=some t->args[j]?=some v->Value.okWide P W .any base t v) (hW:DataW.Whole enc P fn.params.toList s.vars apart W args.toList ds gs before)
 (fp:(DataW.weightsEach P (fn.params.toList++s.plain.varTypes P) (ds++gs)).all (· <=reachBytes)=true) (ht:Ap (λb=>b<W.heap.size) W):
 Calls P f args W λe W'=>∃v,e=.returned v/\ChangeSpec.post enc P fn s apart true false false W args v W':=by
 have hW':=hW
 obtain⟨p,q,hA,hV,rfl,EB,kW⟩:=hW
 rw[GL]at hV
 obtain⟨rfl,rfl⟩:=trodVars_none hV
 obtain⟨hlen,Ds,hf,hr⟩:=Zjw hS (λj t v a b=>WT j t v (by simpa using a) (by simpa using b)) hA (λn hn=>by simpa using List.all_eq_true.1 fp n (Z89 hn))
 obtain⟨s1,s2,s3⟩:=H2 ds hlen
 have hw:=xH (WS Ds hf) hr ht
 rw[Array.toArray_toList]at hw
 refine hw.mono λe W' ⟨he,Ny⟩=>?_
 subst he
 refine⟨_,rfl,ds,[],_,[],p,[],hW',?_,?_,?_,Ny.frame _,λh=>by cases h⟩
 ·rw[kP,cM,s1]
  exact trodAll_mk1 (shut_bool htb _)
 ·rw[cM,s2]
  exact Zhy hl Ny hS hA
 ·rw[cM,s3,GL]
  rfl
