import Derived.Test.YtoijmgbahaekiaaGreatTopJournalFc
import Derived.Below
import Derived.DataReads
import Derived.ChangeArms
import Derived.SizedLaws
import Derived.ProofKit
import Derived.OpenShut
import Derived.ShutString
import Derived.ChangeOld
import Derived.Carry
import Derived.Lib.LaidTab
open Nat renaming beq->bV
open List renaming map_map->bW,map_congr_left->bN,map_id->cE,cons_append->cF,getD->aK,mem_append->bZ,take_add->cG,drop_drop->cH,getElem?_eq_getElem->cI,mem_map_of_mem->cJ,getElem?_of_mem->cK,append_nil->cL
set_option linter.all false
namespace Go.GD
open Go
def Ctx.all(w:World):Ctx:={ρ:=λr=>r,R:=λ_=>none,V:=λ_=>False,I:=λb=>b<w.heap.size,base:=w.heap.size,top:=w.heap.size,X:=λ_=>False}
theorem qQ(w:World)(ht:Qh3 (λb=>b<w.heap.size) w):Mem (Ctx.all w) w:=⟨λr row h=>by simp[Ctx.all]at h,λr s x y h=>by simp[Ctx.all]at h,λb hb=>⟨hb,λr x h=>by simp[Ctx.all]at h⟩,Nat.le_refl _,ht⟩
theorem zz{P:Program}{f:FuncId}{args:List D}{vs:List Value}{w:World}(h:Q2f P f args [] (.bool true) [])(ha:Q5p (Ctx.all w) w args vs)(ht:Qh3 (λb=>b<w.heap.size) w):
 Calls P f vs.toArray w λe w'=>e=.returned (.bool true)/\RowKit.Below w.heap.size w w':=by
 refine(h (Ctx.all w) w vs (qQ w ht) rfl (λr=>by simp[Ctx.all]) ha).mono λe w' hq=>?_
 obtain⟨v,c',he,hn,_,hr⟩:=hq
 have hv:v=.bool true:=hr
 subst hv
 exact⟨he,hn.fr.os,hn.fr.tape,hn.fr.output,hn.fr.size,λk hk=>hn.fr.heap k hk fun⟨r,x,hr,_⟩=>by simp[Ctx.all]at hr⟩
theorem xQ{w:World}{b:Nat}{o:Obj}(h:w.heap[b]?=some o):b<w.heap.size:=by
 by_cases hlt:b<w.heap.size
 ·exact hlt
 ·rw[Array.getElem?_eq_none (by omega)]at h;cases h
inductive STy where
 |int (k:IntKind)
 |bool
 |str
 |sl (cells:List STy)
def STy.bytes:STy->Nat
 |.int k=>match k with|.i8=>1|.u8=>1|.i16=>2|.u16=>2|.i32=>4|.u32=>4|_=>8
 |.bool=>1
 |.str=>16
 |.sl _=>24
def Qzw:List STy->Nat
 |[]=>0
 |t::l=>t.bytes+Qzw l
def repS:Nat->List STy->List STy
 |0,_=>[]
 |n+1,l=>l++repS n l
def Qwz(P:Program)(g:TypeId->Option (List STy)):List Field->Nat->Option (List STy)
 |[],_=>some []
 |f::l,off=>match g f.type,Qwz P g l (off+P.cellsOf f.type)with
  |some a,some b=>match bV f.offset off&&bV a.length (P.cellsOf f.type)with|true=>some (a++b)|false=>none
  |_,_=>none
def stys(P:Program):Nat->TypeId->Option (List STy)
 |0,_=>none
 |f +1,t=>match P.underlying t with
  |some .bool=>some [.bool]
  |some (.int k)=>some [.int k]
  |some .string=>some [.str]
  |some (.slice e)=>match stys P f e with
   |some l=>match bV l.length (P.cellsOf e)&&(Nat.blt 0 l.length&&Nat.ble (Qzw l) (P.bytesOf e))with|true=>some [.sl l]|false=>none
   |none=>none
  |some (.struct fs)=>match Qwz P (stys P f) fs.toList 0 with
   |some l=>match bV l.length (P.cellsOf t)with|true=>some l|false=>none
   |none=>none
  |some (.array n e)=>match stys P f e with
   |some l=>match bV l.length (P.cellsOf e)&&bV (repS n l).length (P.cellsOf t)with|true=>some (repS n l)|false=>none
   |none=>none
  |_=>none
def Qz3:List STy->List (List D)->Els
 |[.int k],es=>.ints k (es.map λe=>(e.getD 0 .dead).toInt)
 |[.bool],es=>.bools (es.map λe=>(e.getD 0 .dead).toBool)
 |_,es=>.gen es
mutual
def Fit:STy->D->Prop
 |.int k,d=>∃n,d=.int k n/\k.min<=n/\n<=k.max
 |.bool,d=>∃b,d=.bool b
 |.str,d=>∃s,d=.str s/\s.length<=reachBytes
 |.sl ts,d=>∃es,d=.sl ts.length (Qz3 ts es) false/\es.length*Qzw ts<=reachBytes/\∀e∈es,Fits ts e
def Fits:List STy->List D->Prop
 |[],[]=>True
 |t::ts,d::ds=>Fit t d/\Fits ts ds
 |_,_=>False
end
theorem Z93{ts:List STy}{es:List (List D)}(h:∀e∈es,Fits ts e):(Qz3 ts es).l=es:=by
 unfold Qz3
 split
 ·simp only[Els.l,bW]
  refine(bN λe he=>?_).trans (cE _)
  have:=h e he
  match e,this with
  |[d],this=>
   simp only[Fits,Fit]at this
   obtain⟨⟨n,rfl,_⟩,_⟩:=this
   rfl
  |[],this=>simp[Fits]at this
  |d::_::_,this=>simp[Fits]at this
 ·simp only[Els.l,bW]
  refine(bN λe he=>?_).trans (cE _)
  have:=h e he
  match e,this with
  |[d],this=>
   simp only[Fits,Fit]at this
   obtain⟨⟨n,rfl⟩,_⟩:=this
   rfl
  |[],this=>simp[Fits]at this
  |d::_::_,this=>simp[Fits]at this
 ·rfl
theorem yz{k:IntKind}{d:D}(h:Fit (.sl [.int k]) d):∃l:List Int,d=.sl 1 (.ints k l) false/\l.length*(STy.int k).bytes<=reachBytes/\∀n∈l,k.min<=n/\n<=k.max:=by
 unfold Fit at h
 obtain⟨es,rfl,hl,h⟩:=h
 refine⟨_,rfl,by simpa[Qzw]using hl,λn hn=>?_⟩
 simp only[List.mem_map]at hn
 obtain⟨e,he,rfl⟩:=hn
 have:=h e he
 match e,this with
 |[d],this=>
  simp only[Fits,Fit]at this
  obtain⟨⟨n,rfl,h1⟩,_⟩:=this
  exact h1
 |[],this=>simp[Fits]at this
 |d::_::_,this=>simp[Fits]at this
def Qcq(I:Blocks)(w:World):List D->List Value->Prop
 |[],[]=>True
 |d::ds,v::vs=>PRep I w d v/\Qcq I w ds vs
 |_,_=>False
theorem Qcq.length{I:Blocks}{w:World}:∀{ds:List D} {vs:List Value},Qcq I w ds vs->ds.length=vs.length
 |[],[],_=>rfl
 |_::_,_::_,h=>by simp[Qcq.length h.2]
 |[],_::_,h=>h.elim
 |_::_,[],h=>h.elim
theorem Qcq.append{I:Blocks}{w:World}:∀{ds es:List D} {vs us:List Value},Qcq I w ds vs->Qcq I w es us->Qcq I w (ds++es) (vs++us)
 |[],_,[],_,_,h=>h
 |_::_,_,_::_,_,h,g=>⟨h.1,Qcq.append h.2 g⟩
 |[],_,_::_,_,h,_=>h.elim
 |_::_,_,[],_,h,_=>h.elim
theorem Fits.length:∀{ts:List STy} {ds:List D},Fits ts ds->ts.length=ds.length
 |[],[],_=>rfl
 |_::_,_::_,h=>by unfold Fits at h;simp[Fits.length h.2]
 |[],_::_,h=>by unfold Fits at h;exact h.elim
 |_::_,[],h=>by unfold Fits at h;exact h.elim
theorem Fits.append:∀{ts us:List STy} {ds es:List D},Fits ts ds->Fits us es->Fits (ts++us) (ds++es)
 |[],_,[],_,_,h=>h
 |_::_,_,_::_,_,h,g=>by unfold Fits at h;simp only[cF];unfold Fits;exact⟨h.1,Fits.append h.2 g⟩
 |[],_,_::_,_,h,_=>by unfold Fits at h;exact h.elim
 |_::_,_,[],_,h,_=>by unfold Fits at h;exact h.elim
theorem Qtr{α β:Type}{f:α->Option β}:∀{l:List α} {r:List β},l.mapM f=some r->r.length=l.length/\∀(j:Nat) (x:α),l[j]?=some x->∃y,f x=some y/\r[j]?=some y
 |[],r,h=>by simp at h;subst h;exact⟨rfl,λj x hj=>by simp at hj⟩
 |a ::l,r,h=>by
  rw[List.mapM_cons]at h
  cases hf:f a with
  |none=>rw[hf]at h;cases h
  |some y=>
   cases hl:l.mapM f with
   |none=>rw[hf,hl]at h;cases h
   |some ys=>
    rw[hf,hl]at h
    have:r=y::ys:=by simpa using h.symm
    subst this
    obtain⟨h1,h2⟩:=Qtr hl
    refine⟨by simp[h1],λj x hj=>?_⟩
    cases j with
    |zero=>simp at hj;subst hj;exact⟨y,hf,rfl⟩
    |succ j=>simp at hj;obtain⟨z,hz⟩:=h2 j x hj;exact⟨z,hz.1,by simpa using hz.2⟩
theorem Qx5{Q:Nat->List D->Prop}:∀(n:Nat),(∀i,i<n->∃e,Q i e)->∃es:List (List D),es.length=n/\∀i,i<n->Q i (es.getD i [])
 |0,_=>⟨[],rfl,λi h=>by omega⟩
 |n +1,h=>by
  obtain⟨es,h1,h2⟩:=Qx5 n λi hi=>h i (by omega)
  obtain⟨e,he⟩:=h n (by omega)
  refine⟨es++[e],by simp[h1],λi hi=>?_⟩
  by_cases hlt:i<n
  ·have:=h2 i hlt
   simpa[aK,List.getElem?_append_left (show i<es.length by omega)]using this
  ·have:i=n:=by omega
   subst this
   simpa[aK,List.getElem?_append_right (show es.length<=i by omega),h1]using he
theorem Z4c{I:Blocks}{w:World}{arr:Array Value}{sz:Nat}:∀{es:List (List D)} {off:Nat},(∀i,i<es.length->(es.getD i []).length=sz/\Q8i I w (es.getD i []) arr (off+i*sz))->Q15 I w es arr off sz
 |[],_,_=>.nil _ _ _
 |e::es,off,h=>by
  have h0:=h 0 (by simp)
  refine .cons _ _ _ _ _ (by simpa using h0.1) (by simpa using h0.2) (Z4c λi hi=>?_)
  have:=h (i+1) (by simpa using hi)
  have e1:off+sz+i*sz=off+(i+1)*sz:=by rw[Nat.add_mul];omega
  rw[e1]
  simpa using this
theorem Z66{I:Blocks}{w:World}{arr:Array Value}:∀{ds:List D} {vs:List Value} {off:Nat},Qcq I w ds vs->(∀j,j<vs.length->arr[off+j]?=vs[j]?)->Q8i I w ds arr off
 |[],[],_,_,_=>.nil _ _
 |d::ds,v::vs,off,h,hc=>by
  refine .cons _ _ _ _ v (by simpa using hc 0 (by simp)) h.1 (Z66 h.2 λj hj=>?_)
  have:=hc (j+1) (by simpa using hj)
  rw[show off+1+j=off+(j+1) by omega]
  simpa using this
 |[],_::_,_,h,_=>h.elim
 |_::_,[],_,h,_=>h.elim
section
variable {H:Type} {enc:TypeId×Value->H} {P:Program} {w:World}
theorem Qes{t:TypeId}:∀{ds:List (DataW H)} {d:DataW H},d∈ds->∀n∈d.weights P t,n∈DataW.weightsAll P t ds
 |d0::ds,d,hd,n,hn=>by
  simp only[DataW.weightsAll,bZ]
  rcases List.mem_cons.1 hd with rfl|hd
  ·exact .inl hn
  ·exact .inr (Qes hd n hn)
 |[],_,hd,_,_=>by simp at hd
def Small(P:Program)(t:TypeId)(d:DataW H):Prop:=∀n∈d.weights P t,n<=reachBytes
theorem Qu3{g:TypeId->Option (List STy)}{fuel:Nat}{cs:List Value}(ih:∀t cs x tys,DataW.trod enc P w 0 (λ_=>true) true fuel t cs=some x->Small P t x.1->g t=some tys->∃ds,Fits tys ds/\Qcq (Ctx.all w).I w ds cs):
 ∀ (l:List Field) (off:Nat) (tys:List STy),(∀f∈l,∃y,DataW.trod enc P w 0 (λ_=>true) true fuel f.type ((cs.drop f.offset).take (P.cellsOf f.type))=some y/\Small P f.type y.1)->Qwz P g l off=some tys->
  ∃ds,Fits tys ds/\Qcq (Ctx.all w).I w ds ((cs.drop off).take tys.length)
 |[],off,tys,_,h=>by simp[Qwz]at h;subst h;exact⟨[],by unfold Fits;trivial,by simp[Qcq]⟩
 |f ::l,off,tys,hl,h=>by
  simp only[Qwz]at h
  split at h
  ·rename_i a b ha hb
   split at h
   ·rename_i hc
    simp only[aE]at hc
    have h1:=bE hc.1
    have h2:=bE hc.2
    cases h
    obtain⟨y,hy,hz⟩:=hl f (by simp)
    obtain⟨ds,hd,hr⟩:=ih _ _ _ _ hy hz ha
    obtain⟨es,he,hs⟩:=Qu3 ih l _ b (λf hf=>hl f (by simp[hf])) hb
    refine⟨ds++es,hd.append he,?_⟩
    rw[h1,<-h2]at hr
    rw[<-h2]at hs
    rw[lA,cG,cH]
    exact hr.append hs
   ·cases h
  ·cases h
theorem Z3p{fuel:Nat}{e:TypeId}{cs:List Value}{l:List STy}(ih:∀cs x,DataW.trod enc P w 0 (λ_=>true) true fuel e cs=some x->Small P e x.1->∃ds,Fits l ds/\Qcq (Ctx.all w).I w ds cs)(hl:l.length=P.cellsOf e):
 ∀ (n off:Nat),(∀i,i<n->∃y,DataW.trod enc P w 0 (λ_=>true) true fuel e ((cs.drop (off+i*P.cellsOf e)).take (P.cellsOf e))=some y/\Small P e y.1)->
  ∃ds,Fits (repS n l) ds/\Qcq (Ctx.all w).I w ds ((cs.drop off).take (repS n l).length)
 |0,off,_=>⟨[],by unfold repS Fits;trivial,by simp[Qcq,repS]⟩
 |n +1,off,h=>by
  obtain⟨y,hy,hz⟩:=h 0 (by omega)
  obtain⟨ds,hd,hr⟩:=ih _ _ hy hz
  obtain⟨es,he,hs⟩:=Z3p ih hl n (off+P.cellsOf e) λi hi=>by
   have:=h (i+1) (by omega)
   rwa [show off+P.cellsOf e+i*P.cellsOf e=off+(i+1)*P.cellsOf e by rw[Nat.add_mul];omega]
  refine⟨ds++es,hd.append he,?_⟩
  simp only[repS]
  rw[lA,cG,cH,hl]
  exact(by simpa using hr:Qcq (Ctx.all w).I w ds _).append hs
theorem Qne : ∀(f fuel:Nat) (t:TypeId) (cs:List Value) (x:DataW H×List MemPlace) (tys:List STy),DataW.trod enc P w 0 (λ_=>true) true fuel t cs=some x->Small P t x.1->stys P f t=some tys-> ∃ds,Fits tys ds/\Qcq (Ctx.all w).I w ds cs
  |0,_,_,_,_,_,_,_,h=>by simp [stys]at h
  |f+1,0,_,_,_,_,h,_,_=>by simp [DataW.trod]at h
  | f + 1, fuel + 1,t,cs,x,tys,h,hz,hs=>by
    simp only[stys]at hs
    split at hs
    . rename_i hu
      cases hs
      obtain⟨b,rfl,_⟩:=DataW.trod_bool hu h
      exact⟨[.bool b],by simp [Fits,Fit],by simp [Qcq,Q38,Q4u,Q4s,Q39,Q3c,Q4p,Q8n,Q5v,Q5w,Q61,Q9m,Q41,Q46,Q44,Q60,Q5z]⟩
    . rename_i k hu
      cases hs
      obtain⟨n,rfl,_,hw⟩:=DataW.trod_int hu h
      simp only[Lit.wf,aE,decide_eq_true_eq]at hw
      exact⟨[.int k n],by simp [Fits,Fit,hw],by simp [Qcq,Q38,Q4u,Q4s,Q39,Q3c,Q4p,Q8n,Q5v,Q5w,Q61,Q9m,Q41,Q46,Q44,Q60,Q5z]⟩
    . rename_i hu
      cases hs
      obtain⟨s,rfl,hx,hsz⟩:=DataW.trod_string hu h
      have hb:s.data.toList.length<=reachBytes:=hz _ (by rw[hx];simp [DataW.weights])
      refine⟨[.str s.data.toList],?_,?_⟩
      . simp only[Fits,Fit]
        exact⟨⟨_,rfl,hb⟩,trivial⟩
      . simp [Qcq,Q38,Q4u,Q4s,Q39,Q3c,Q4p,Q8n,Q5v,Q5w,Q61,Q9m,Q41,Q46,Q44,Q60,Q5z]
    . rename_i e hu
      split at hs
      . rename_i l hl
        split at hs
        . rename_i hc
          cases hs
          simp only[aE]at hc
          have h1:=bE hc.1
          have h2:0<l.length:=lE hc.2.1
          have h3:Qzw l<=P.bytesOf e:=lE hc.2.2
          rcases DataW.trod_slice hu h with⟨rfl,_⟩|⟨a,len,cap,elems,rest,n,hn,rfl,hx,_,hlc,hcm,hel,hget,_⟩
          . have hc0:(Qz3 l []).l=[]:=Z93 (λe he=>by simp at he)
            refine⟨[.sl l.length (Qz3 l []) false],?_,?_⟩
            . simp only[Fits,Fit]
              exact⟨⟨[],rfl,by simp,by simp⟩,trivial⟩
            . simp only[Qcq,Q38,Q4u,Q4s,Q39,Q3c,Q4p,Q8n,Q5v,Q5w,Q61,Q9m,Q41,Q46,Q44,Q60,Q5z]
              exact⟨⟨none,0,by rw[hc0];rfl,by rw[hc0];exact Nat.le_refl _, .inl hc0⟩,trivial⟩
          . have hn:n=fuel:=by omega
            subst hn
            have each: ∀i,i<len-> ∃e',Fits l e'/\ ∃vs,Qcq (Ctx.all w).I w e' vs/\w.cells? 0 (a.add (i*P.cellsOf e)) (P.cellsOf e)=some vs:=λi hi=>by
              have:=hget i hi
              rw[cI (by omega)]at this
              cases hcs:w.cells? 0 (a.add (i*P.cellsOf e)) (P.cellsOf e) with
              |none=>rw[hcs]at this;cases this
              | some vs=>
                rw[hcs]at this
                obtain⟨ds,hd,hr⟩:=Qne f n e vs _ l this (λm hm=>hz m (by
                  rw[hx]
                  simp only[DataW.weights,hu,List.mem_cons,bZ]
                  exact .inr (.inl (Qes (cJ (List.getElem_mem _)) m hm)))) hl
                exact⟨ds,hd,vs,hr,rfl⟩
            obtain⟨es,hes,hE⟩:=Qx5 len each
            have hfit: ∀e'∈es,Fits l e':=λe' he'=>by
              obtain⟨i,hi⟩:=cK he'
              have hlt:=(List.getElem?_eq_some_iff.1 hi).1
              have:=(hE i (by omega)).1
              rwa [aK,hi]at this
            have hcl:=Z93 hfit
            refine⟨[.sl l.length (Qz3 l es) false],?_,?_⟩
            . simp only[Fits,Fit]
              refine⟨⟨es,rfl,?_,hfit⟩,trivial⟩
              have hb:(elems.length+rest.length)*P.bytesOf e<=reachBytes:=hz _ (by rw[hx];simp [DataW.weights,hu])
              have h4:es.length*Qzw l<=(elems.length+rest.length)*P.bytesOf e:=Nat.mul_le_mul (by omega) h3
              omega
            . simp only[Qcq,Q38,Q4u,Q4s,Q39,Q3c,Q4p,Q8n,Q5v,Q5w,Q61,Q9m,Q41,Q46,Q44,Q60,Q5z,Qtl,hcl]
              refine⟨⟨some a,cap,by rw[hes],by omega,?_⟩,trivial⟩
              by_cases hz:len=0
              . left;exact List.eq_nil_of_length_eq_zero (by omega)
              . right
                have cellAt: ∀i vs,w.cells? 0 (a.add (i*P.cellsOf e)) (P.cellsOf e)=some vs->vs.length=P.cellsOf e/\ ∀j,j<P.cellsOf e->w.cell? ((a.add (i*P.cellsOf e)).add j)=vs[j]? :=λi vs hvs=>by
                  simp only[World.cells?,Nat.zero_le,if_true]at hvs
                  obtain⟨g1,g2⟩:=Qtr hvs
                  refine⟨by simpa using g1,λj hj=> ?_⟩
                  obtain⟨y,hy,hy'⟩:=g2 j j (by simp [hj])
                  rw[hy,hy']
                obtain⟨_,vs0,hr0,hc0⟩:=hE 0 (by omega)
                have h0:=(cellAt 0 vs0 hc0).2 0 (by omega)
                have hv0: ∃v,vs0[0]? =some v:=⟨vs0[0]'(by have:=(cellAt 0 vs0 hc0).1;omega),cI _⟩
                obtain⟨v0,hv0⟩:=hv0
                rw[hv0]at h0
                have hsp:=World.cell?_spot h0
                obtain⟨b,off,sp⟩:=a
                simp only[Addr.add,Nat.zero_mul,if_true]at hsp h0
                subst hsp
                have hb: ∃arr ty fz,w.heap[b]? =some (.cells arr ty fz):=by
                  unfold World.cell? at h0
                  split at h0
                  . rename_i arr ty fz he;exact⟨arr,ty,fz,he⟩
                  . cases h0
                obtain⟨arr,ty,fz,he⟩:=hb
                refine⟨b,off,arr,ty,fz,rfl,xQ he,he,Z4c λi hi=> ?_⟩
                obtain⟨hf,vs,hr,hcs⟩:=hE i (by omega)
                obtain⟨k1,k2⟩:=cellAt i vs hcs
                refine⟨hf.length.symm,Z66 hr λj hj=> ?_⟩
                have:=k2 j (by omega)
                rw[<-this,h1]
                have e1:(((⟨b,off,none⟩:Addr).add (i*P.cellsOf e)).add j)=⟨b,off+i*P.cellsOf e+j,none⟩:=by
                  unfold Addr.add
                  split<;>split<;>simp_all
                rw[e1]
                unfold World.cell?
                simp [he]
        . cases hs
      . cases hs
    . rename_i fs hu
      split at hs
      . rename_i l hl
        split at hs
        . rename_i hc
          cases hs
          have hc:=bE hc
          unfold DataW.trod at h
          rw[hu]at h
          simp only at h
          split at h
          . rename_i hlen
            cases hm:fs.toList.mapM λf=>DataW.trod enc P w 0 (λ_=>true) true fuel f.type ((cs.drop f.offset).take (P.cellsOf f.type)) with
            |none=>rw[hm]at h;cases h
            | some r=>
              obtain⟨_,hg⟩:=Qtr hm
              rw[hm]at h
              have hx:x=(.agg (r.map (·.1)),r.flatMap (·.2)):=by simpa using h.symm
              obtain⟨ds,hd,hr⟩:=Qu3 (g:=stys P f) (λt cs x tys=>Qne f fuel t cs x tys) fs.toList 0 tys (λfd hf=>by
                obtain⟨j,hj⟩:=cK hf
                obtain⟨y,hy,hrj⟩:=hg j fd hj
                refine⟨y,hy,λm hm'=>hz m ?_⟩
                rw[hx]
                simp only[DataW.weights,hu]
                exact DataW.weights_mem_each (j:=j) (by simp [hj]) (by simp [hrj]) m hm') hl
              refine⟨ds,hd,?_⟩
              rw[hc,<-hlen]at hr
              simpa using hr
          . cases h
        . cases hs
      . cases hs
    . rename_i n e hu
      split at hs
      . rename_i l hl
        split at hs
        . rename_i hc
          simp only[Option.some.injEq]at hs
          simp only[aE]at hc
          have h1:=bE hc.1
          have h2:=bE hc.2
          subst hs
          unfold DataW.trod at h
          rw[hu]at h
          simp only at h
          split at h
          . rename_i hlen
            cases hm:(List.range n).mapM λi=>DataW.trod enc P w 0 (λ_=>true) true fuel e ((cs.drop (i*P.cellsOf e)).take (P.cellsOf e)) with
            |none=>rw[hm]at h;cases h
            | some r=>
              obtain⟨_,hg⟩:=Qtr hm
              rw[hm]at h
              have hx:x=(.agg (r.map (·.1)),r.flatMap (·.2)):=by simpa using h.symm
              obtain⟨ds,hd,hr⟩:=Z3p (l:=l) (λcs x hx hz=>Qne f fuel e cs x l hx hz hl) h1 n 0 (λi hi=>by
                obtain⟨y,hy,hrj⟩:=hg i i (by simp [hi])
                refine⟨y,by simpa using hy,λm hm'=>hz m ?_⟩
                rw[hx]
                simp only[DataW.weights,hu]
                exact Qes (cJ (List.mem_of_getElem? hrj)) m hm')
              refine⟨ds,hd,?_⟩
              rw[h2,<-hlen]at hr
              simpa using hr
          . cases h
        . cases hs
      . cases hs
    . cases hs
end
end Go.GD
namespace Go.GD
open Go Go.ChangeShapes Go.RowKit
def isAggT(P:Program)(t:TypeId):Bool:=match P.underlying t with|some (.struct _)=>true|some (.array _ _)=>true|_=>false
def FitA:List (Bool×List STy)->List D->Prop
 |[],[]=>True
 |(true,tys)::l,d::ds=>(∃es,d=.agg es/\Fits tys es)/\FitA l ds
 |(false,tys)::l,d::ds=>Fits tys [d]/\FitA l ds
 |_,_=>False
theorem Z17{tys:List STy}{l:List (Bool×List STy)}{Ds:List D}(h:FitA ((false,tys)::l) Ds):∃d ds,Ds=d::ds/\Fits tys [d]/\FitA l ds:=by
 cases Ds with
 |nil=>unfold FitA at h;exact h.elim
 |cons d ds=>unfold FitA at h;exact⟨d,ds,rfl,h⟩
theorem vz{Ds:List D}(h:FitA [] Ds):Ds=[]:=by
 cases Ds with
 |nil=>rfl
 |cons d ds=>unfold FitA at h;exact h.elim
theorem Z34{t:STy}{d:D}(h:Fits [t] [d]):Fit t d:=by unfold Fits at h;exact h.1
theorem Qfy{k:IntKind}{d:D}(h:Fit (.int k) d):∃n,d=.int k n/\k.min<=n/\n<=k.max:=by unfold Fit at h;exact h
theorem qA{d:D}(h:Fit .bool d):∃b,d=.bool b:=by unfold Fit at h;exact h
theorem zQ{d:D}(h:Fit .str d):∃s,d=.str s/\s.length<=reachBytes:=by unfold Fit at h;exact h
def SigOK(P:Program)(n:Nat):List TypeId->List (Bool×List STy)->Prop
 |[],[]=>True
 |t::ts,(b,tys)::l=>stys P n t=some tys/\isAggT P t=b/\P.readableRec t=true/\t<P.types.size/\SigOK P n ts l
 |_,_=>False
theorem yQ{w:World}{t:STy}{d:D}{v:Value}(hf:Fit t d)(h:PRep (Ctx.all w).I w d v):CRep (Ctx.all w) w d v:=by
 cases t with
 |int k=>unfold Fit at hf;obtain⟨n,rfl,_⟩:=hf;exact Q4u.1 h
 |bool=>unfold Fit at hf;obtain⟨n,rfl⟩:=hf;exact Q38.1 h
 |str=>unfold Fit at hf;obtain⟨n,rfl,_⟩:=hf;exact Q4s.1 h
 |sl ts=>
  unfold Fit at hf
  obtain⟨es,rfl,_⟩:=hf
  simp only[Q38,Q4u,Q4s,Q39,Q3c,Q4p,Q8n,Q5v,Q5w,Q61,Q9m,Q41,Q46,Q44,Q60,Q5z]at h
  obtain⟨a,cap,h1,h2,h3⟩:=h
  refine⟨a,cap,h1,h2,?_⟩
  rcases h3 with h3|⟨b,off,arr,ty,fz,g0,g1,g2,g3⟩
  ·exact .inl h3
  ·exact .inr ⟨b,off,arr,ty,fz,g0,g1,(λe=>by cases e),g2,Qtl.1 g3⟩
theorem Z2m{w:World}:∀{ts:List STy} {ds:List D} {vs:List Value},Fits ts ds->Qcq (Ctx.all w).I w ds vs->Q2y (Ctx.all w) w ds vs
 |[],[],[],_,_=>trivial
 |t::ts,d::ds,v::vs,hf,h=>by unfold Fits at hf;exact⟨yQ hf.1 h.1,Z2m hf.2 h.2⟩
 |[],[],_::_,_,h=>h.elim
 |_,_::_,[],_,h=>h.elim
 |[],_::_,_,hf,_=>by unfold Fits at hf;exact hf.elim
 |_::_,[],_,hf,_=>by unfold Fits at hf;exact hf.elim
section
variable {H:Type} {enc:TypeId×Value->H} {P:Program} {w:World}
theorem xA{n:Nat}{t:TypeId}{tys:List STy}{b:Bool}{base:Nat}{v:Value}{d:DataW H}{p:List MemPlace}(hs:stys P n t=some tys)(hb:isAggT P t=b)(hv:Value.okWide P w .any base t v)(h:DataW.Trod enc P w 0 (λ_=>true) true t v d p)(hz:Small P t d):
 ∃D',FitA [(b,tys)] [D']/\VRep (Ctx.all w) w D' v:=by
 obtain⟨fuel,h⟩:=h
 obtain⟨ds,hd,hr⟩:=Qne n fuel t _ _ tys h hz hs
 unfold isAggT at hb
 cases b with
 |true=>
  have hagg:∃cs,v=.agg cs:=by
   unfold Value.okWide at hv
   split at hb
   ·rename_i hu;rw[hu]at hv;obtain⟨cs,h1,_⟩:=hv;exact⟨cs,h1⟩
   ·rename_i hu;rw[hu]at hv;obtain⟨cs,h1,_⟩:=hv;exact⟨cs,h1⟩
   ·cases hb
  obtain⟨cs,rfl⟩:=hagg
  refine⟨.agg ds,by simp only[FitA];exact⟨⟨ds,rfl,hd⟩,trivial⟩,cs.toList,by simp,?_⟩
  exact Z2m hd (by simpa[Value.cells]using hr)
 |false =>
  have hno:v.cells.toList=[v]/\tys.length=1:=by
   cases n with
   |zero=>simp[stys]at hs
   |succ n=>
    simp only[stys]at hs
    unfold Value.okWide at hv
    split at hs
    ·rename_i hu;cases hs;rw[hu]at hv;simp only[Cell.okWide,hu]at hv;cases v<;>simp_all [Cell.ok,Value.cells]
    ·rename_i hu;cases hs;rw[hu]at hv;simp only[Cell.okWide,hu]at hv;cases v<;>simp_all [Cell.ok,Value.cells]
    ·rename_i hu;cases hs;rw[hu]at hv;simp only[Cell.okWide,hu]at hv;cases v<;>simp_all [Cell.ok,Value.cells]
    ·rename_i hu
     split at hs
     ·split at hs
      ·cases hs;rw[hu]at hv;simp only[Cell.okWide,hu]at hv;cases v<;>simp_all [Cell.ok,Value.cells]
      ·cases hs
     ·cases hs
    ·rename_i hu;rw[hu]at hb;cases hb
    ·rename_i hu;rw[hu]at hb;cases hb
    ·cases hs
  rw[hno.1]at hr
  match tys,ds,hd,hr,hno.2 with
  |[t],[d],hd,hr,_=>
   refine⟨d,by simp only[FitA];exact⟨hd,trivial⟩,?_⟩
   have:=(Z2m hd hr).1
   cases d<;>first|exact this|exact this.elim
  |[t],_::_::_,hd,hr,_=>exact hr.2.elim
  |[t],[],hd,hr,_=>exact hr.elim
theorem Z6j{n:Nat}{base:Nat}:∀{ts:List TypeId} {sig:List (Bool×List STy)} {vs:List Value} {ds:List (DataW H)} {p:List MemPlace},SigOK P n ts sig->(∀(j:Nat) t v,ts[j]?=some t->vs[j]?=some v->Value.okWide P w .any base t v)->DataW.TrodAll enc P w 0 (λ_=>true) true ts vs ds p->(∀n∈DataW.weightsEach P ts ds,n<=reachBytes)->
 ds.length=ts.length/\∃Ds,FitA sig Ds/\Q5p (Ctx.all w) w Ds vs
 |[],[],[],[],_,_,_,_,_=>⟨rfl,[],trivial,trivial⟩
 |t::ts,(b,tys)::sig,v::vs,d::ds,p,hS,hv,h,hz=>by
  obtain⟨h1,h2,h3,h4,h5⟩:=hS
  obtain⟨p1,p2,g1,g2,rfl⟩:=h
  obtain⟨D',hf,hr⟩:=xA h1 h2 (hv 0 t v rfl rfl) g1 (λn hn=>hz n (by simp only[DataW.weightsEach,bZ];exact .inl hn))
  obtain⟨hl,Ds,hfs,hrs⟩:=Z6j h5 (λj t v a b=>hv (j+1) t v (by simpa using a) (by simpa using b)) g2 (λn hn=>hz n (by simp only[DataW.weightsEach,bZ];exact .inr hn))
  refine⟨by simp[hl],D'::Ds,?_,hr,hrs⟩
  cases b
  ·simp only[FitA]at hf⊢;exact⟨hf.1,hfs⟩
  ·simp only[FitA]at hf⊢;exact⟨hf.1,hfs⟩
 |[],[],_::_,_,_,_,_,h,_=>by simp[DataW.TrodAll]at h
 |[],[],[],_::_,_,_,_,h,_=>by simp[DataW.TrodAll]at h
 |_::_,_,[],_,_,_,_,h,_=>by simp[DataW.TrodAll]at h
 |_::_,_,_::_,[],_,_,_,h,_=>by simp[DataW.TrodAll]at h
 |[],_::_,_,_,_,h,_,_,_=>h.elim
 |_::_,[],_,_,_,h,_,_,_=>h.elim
theorem Z4b{w':World}{n:Nat}(hl:laidOutB P=true)(bel:Below w.heap.size w w'):∀{ts:List TypeId} {sig:List (Bool×List STy)} {vs:List Value} {ds:List (DataW H)} {p:List MemPlace},SigOK P n ts sig->DataW.TrodAll enc P w 0 (λ_=>true) true ts vs ds p->
 DataW.TrodAll enc P w' 0 (λb=>decide (b<w.heap.size)) true ts vs ds p
 |[],[],[],[],_,_,h=>h
 |t::ts,(b,tys)::sig,v::vs,d::ds,p,hS,h=>by
  obtain⟨h1,h2,h3,h4,h5⟩:=hS
  obtain⟨p1,p2,g1,g2,rfl⟩:=h
  refine trodAll_cons_mk (Below.trod hl h3 h4 g1 bel λx hx=>?_) (Z4b hl bel h5 g2)
  obtain⟨m,hm⟩:=g1
  exact DataW.trod_lt m _ _ _ hm x hx
 |[],[],_::_,_,_,_,h=>by simp[DataW.TrodAll]at h
 |[],[],[],_::_,_,_,h=>by simp[DataW.TrodAll]at h
 |_::_,_,[],_,_,_,h=>by simp[DataW.TrodAll]at h
 |_::_,_,_::_,[],_,_,h=>by simp[DataW.TrodAll]at h
 |[],_::_,_,_,_,h,_=>h.elim
 |_::_,[],_,_,_,h,_=>h.elim
theorem Qw1:∀{ts us:List TypeId} {ds gs:List (DataW H)} {n:Nat},n∈DataW.weightsEach P ts ds->n∈DataW.weightsEach P (ts++us) (ds++gs)
 |t::ts,us,d::ds,gs,n,h=>by
  simp only[DataW.weightsEach,bZ,cF]at h⊢
  exact h.imp id Qw1
 |[],_,_,_,_,h=>by simp[DataW.weightsEach]at h
 |_::_,_,[],_,_,h=>by simp[DataW.weightsEach]at h
theorem Zbm{f:FuncId}{fn:Func}{s:ChangeSpec}{n:Nat}{tb:TypeId}{sig:List (Bool×List STy)}(hl:laidOutB P=true)(hS:SigOK P n fn.params.toList sig)(hres:fn.resultTypes= #[tb])(htb:P.underlying tb=some .bool)(hvars:s.vars=[])
 (hsp:∀ds:List (DataW H),ds.length=fn.params.toList.length->(s.fn H ds).results=[.lit (.bool true)]/\(s.fn H ds).args=ds/\(s.fn H ds).vars=[]) (hlaw:∀Ds,FitA sig Ds->Q2f P f Ds [] (.bool true) [])
 {apart:Bool} (W:World) (base:Nat) (args:Array Value) (ds gs:List (DataW H)) (before:List MemPlace) (hval:∀(j:Nat) t v,fn.params[j]?=some t->args[j]?=some v->Value.okWide P W .any base t v) (hW:DataW.Whole enc P fn.params.toList s.vars apart W args.toList ds gs before)
 (hsz:(DataW.weightsEach P (fn.params.toList++s.plain.varTypes P) (ds++gs)).all (· <=reachBytes)=true) (ht:Qh3 (λb=>b<W.heap.size) W):
 Calls P f args W λe W'=>∃v,e=.returned v/\ChangeSpec.post enc P fn s apart true false false W args v W':=by
 have hW':=hW
 obtain⟨p,q,hA,hV,rfl,hfz,hnd⟩:=hW
 rw[hvars]at hV
 obtain⟨rfl,rfl⟩:=trodVars_none hV
 obtain⟨hlen,Ds,hf,hr⟩:=Z6j hS (λj t v a b=>hval j t v (by simpa using a) (by simpa using b)) hA (λn hn=>by simpa using List.all_eq_true.1 hsz n (Qw1 hn))
 obtain⟨s1,s2,s3⟩:=hsp ds hlen
 have hw:=zz (hlaw Ds hf) hr ht
 rw[Array.toArray_toList]at hw
 refine hw.mono λe W' ⟨he,bel⟩=>?_
 subst he
 refine⟨_,rfl,ds,[],_,[],p,[],hW',?_,?_,?_,bel.frame _,λh=>by cases h⟩
 ·rw[hres,cL,s1]
  exact trodAll_mk1 (shut_bool htb _)
 ·rw[cL,s2]
  exact Z4b hl bel hS hA
 ·rw[cL,s3,hvars]
  rfl
