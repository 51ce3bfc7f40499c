import Derived.Test.YtmalmklaonainaaGreatReplayRefusesFd
import Derived.ProofKit
import Derived.OpenShut
import Derived.ShutString
import Derived.ChangeOld
import Derived.Carry
set_option linter.all false
namespace Go.GD
open Go Go.ChangeShapes Go.RowKit
def isAggT(P:Program)(t:TypeId):Bool:=match P.underlying t with|some (.struct _)=>true|some (.array _ _)=>true|_=>false
def FitA:List (Bool×List STy)->List D->Prop
 |[],[]=>True
 |(true,tys)::l,d::ds=>(∃es,d= .agg es/\Fits tys es)/\FitA l ds
 |(false,tys)::l,d::ds=>Fits tys [d]/\FitA l ds
 |_,_=>False
theorem Z0j{tys:List STy}{l:List (Bool×List STy)}{Ds:List D}(h:FitA ((false,tys)::l) Ds): ∃d ds,Ds=d::ds/\Fits tys [d]/\FitA l ds:=by
 cases Ds with
 |nil=>unfold FitA at h;exact h.elim
 |cons d ds=>unfold FitA at h;exact⟨d,ds,rfl,h⟩
theorem vU{Ds:List D}(h:FitA [] Ds):Ds=[]:=by
 cases Ds with
 |nil=>rfl
 |cons d ds=>unfold FitA at h;exact h.elim
theorem Z0i{t:STy}{d:D}(h:Fits [t] [d]):Fit t d:=by unfold Fits at h;exact h.1
theorem zu{k:IntKind}{d:D}(h:Fit (.int k) d): ∃n,d= .int k n/\k.min<=n/\n<=k.max:=by unfold Fit at h;exact h
def SigOK(P:Program)(n:Nat):List TypeId->List (Bool×List STy)->Prop
 |[],[]=>True
 |t::ts,(b,tys)::l=>stys P n t=some tys/\isAggT P t=b/\P.readableRec t=true/\t<P.types.size/\SigOK P n ts l
 |_,_=>False
theorem qaC{w:World}{t:STy}{d:D}{v:Value}(hf:Fit t d)(h:PRep (Ctx.all w).I w d v):CRep (Ctx.all w) w d v:=by
 cases t with
 |int k=>unfold Fit at hf;obtain⟨n,rfl,_⟩:=hf;exact Q72.1 h
 |bool=>unfold Fit at hf;obtain⟨n,rfl⟩:=hf;exact Q4o.1 h
 |str=>unfold Fit at hf;obtain⟨n,rfl,_⟩:=hf;exact Q6v.1 h
 | sl ts=>
   unfold Fit at hf
   obtain⟨es,rfl,_⟩:=hf
   simp only[Q4o,Q72,Q6v,Q4q,Q4j,Q7a,Qbm,Q8e,Q8s,Q89,Qcm,Q62,Q67,Q66,Q8m,Q8b]at h
   obtain⟨a,cap,h1,h2,h3⟩:=h
   refine⟨a,cap,h1,h2,?_⟩
   rcases h3 with h3|⟨b,off,arr,ty,fz,g0,g1,g2,g3⟩
   . exact .inl h3
   . exact .inr ⟨b,off,arr,ty,fz,g0,g1,(λe=>by cases e),g2,Z0x.1 g3⟩
theorem Zbd{w:World}: ∀{ts:List STy} {ds:List D} {vs:List Value},Fits ts ds->Qhb (Ctx.all w).I w ds vs->Q3v (Ctx.all w) w ds vs
 |[],[],[],_,_=>trivial
 |t::ts,d::ds,v::vs,hf,h=>by unfold Fits at hf;exact⟨qaC hf.1 h.1,Zbd hf.2 h.2⟩
 |[],[],_::_,_,h=>h.elim
 |_,_::_,[],_,h=>h.elim
 |[],_::_,_,hf,_=>by unfold Fits at hf;exact hf.elim
 |_::_,[],_,hf,_=>by unfold Fits at hf;exact hf.elim
section
variable {H:Type} {enc:TypeId×Value->H} {P:Program} {w:World}
theorem xV{n:Nat}{t:TypeId}{tys:List STy}{b:Bool}{base:Nat}{v:Value}{d:DataW H}{p:List MemPlace}(hs:stys P n t=some tys)(hb:isAggT P t=b)(hv:Value.okWide P w .any base t v)(h:DataW.Trod enc P w 0 (λ_=>true) true t v d p)(hz:Zop P t d):
    ∃D',FitA [(b,tys)] [D']/\VRep (Ctx.all w) w D' v:=by
  obtain⟨fuel,h⟩:=h
  obtain⟨ds,hd,hr⟩:=Qt9 n fuel t _ _ tys h hz hs
  unfold isAggT at hb
  cases b with
  | true=>
    have hagg: ∃cs,v= .agg cs:=by
      unfold Value.okWide at hv
      split at hb
      . rename_i hu;rw[hu]at hv;obtain⟨cs,h1,_⟩:=hv;exact⟨cs,h1⟩
      . rename_i hu;rw[hu]at hv;obtain⟨cs,h1,_⟩:=hv;exact⟨cs,h1⟩
      . cases hb
    obtain⟨cs,rfl⟩:=hagg
    refine⟨.agg ds,by simp only[FitA];exact⟨⟨ds,rfl,hd⟩,trivial⟩,cs.toList,by simp,?_⟩
    exact Zbd hd (by simpa [Value.cells] using hr)
  | false =>
    have hno:v.cells.toList=[v]/\tys.length=1:=by
      cases n with
      |zero=>simp [stys]at hs
      | succ n=>
        simp only[stys]at hs
        unfold Value.okWide at hv
        split at hs
        . rename_i hu;cases hs;rw[hu]at hv;simp only[Cell.okWide,hu]at hv;cases v<;>simp_all [Cell.ok,Value.cells]
        . rename_i hu;cases hs;rw[hu]at hv;simp only[Cell.okWide,hu]at hv;cases v<;>simp_all [Cell.ok,Value.cells]
        . rename_i hu;cases hs;rw[hu]at hv;simp only[Cell.okWide,hu]at hv;cases v<;>simp_all [Cell.ok,Value.cells]
        . rename_i hu
          split at hs
          . split at hs
            . cases hs;rw[hu]at hv;simp only[Cell.okWide,hu]at hv;cases v<;>simp_all [Cell.ok,Value.cells]
            . cases hs
          . cases hs
        . rename_i hu;rw[hu]at hb;cases hb
        . rename_i hu;rw[hu]at hb;cases hb
        . cases hs
    rw[hno.1]at hr
    match tys,ds,hd,hr,hno.2 with
    | [t],[d],hd,hr,_=>
      refine⟨d,by simp only[FitA];exact⟨hd,trivial⟩,?_⟩
      have:=(Zbd hd hr).1
      cases d<;>first|exact this|exact this.elim
    |[t],_::_::_,hd,hr,_=>exact hr.2.elim
    |[t],[],hd,hr,_=>exact hr.elim
theorem Zgy{n:Nat}{base:Nat}: ∀{ts:List TypeId} {sig:List (Bool×List STy)} {vs:List Value} {ds:List (DataW H)} {p:List MemPlace},SigOK P n ts sig->(∀(j:Nat) t v,ts[j]? =some t->vs[j]? =some v->Value.okWide P w .any base t v)->DataW.TrodAll enc P w 0 (λ_=>true) true ts vs ds p->(∀n∈DataW.weightsEach P ts ds,n<=reachBytes)->
   ds.length=ts.length/\ ∃Ds,FitA sig Ds/\Q8a (Ctx.all w) w Ds vs
 |[],[],[],[],_,_,_,_,_=>⟨rfl,[],trivial,trivial⟩
 | t::ts,(b,tys)::sig,v::vs,d::ds,p,hS,hv,h,hz=>by
   obtain⟨h1,h2,h3,h4,h5⟩:=hS
   obtain⟨p1,p2,g1,g2,rfl⟩:=h
   obtain⟨D',hf,hr⟩:=xV h1 h2 (hv 0 t v rfl rfl) g1 (λn hn=>hz n (by simp only[DataW.weightsEach,List.mem_append];exact .inl hn))
   obtain⟨hl,Ds,hfs,hrs⟩:=Zgy h5 (λj t v a b=>hv (j+1) t v (by simpa using a) (by simpa using b)) g2 (λn hn=>hz n (by simp only[DataW.weightsEach,List.mem_append];exact .inr hn))
   refine⟨by simp [hl],D'::Ds,?_,hr,hrs⟩
   cases b
   . simp only[FitA]at hf⊢;exact⟨hf.1,hfs⟩
   . simp only[FitA]at hf⊢;exact⟨hf.1,hfs⟩
 |[],[],_::_,_,_,_,_,h,_=>by simp [DataW.TrodAll]at h
 |[],[],[],_::_,_,_,_,h,_=>by simp [DataW.TrodAll]at h
 |_::_,_,[],_,_,_,_,h,_=>by simp [DataW.TrodAll]at h
 |_::_,_,_::_,[],_,_,_,h,_=>by simp [DataW.TrodAll]at h
 |[],_::_,_,_,_,h,_,_,_=>h.elim
 |_::_,[],_,_,_,h,_,_,_=>h.elim
theorem Zh{w':World}{n:Nat}(hl:laidOutB P=true)(bel:Below w.heap.size w w'): ∀{ts:List TypeId} {sig:List (Bool×List STy)} {vs:List Value} {ds:List (DataW H)} {p:List MemPlace},SigOK P n ts sig->DataW.TrodAll enc P w 0 (λ_=>true) true ts vs ds p->
   DataW.TrodAll enc P w' 0 (λb=>decide (b<w.heap.size)) true ts vs ds p
 |[],[],[],[],_,_,h=>h
 | t::ts,(b,tys)::sig,v::vs,d::ds,p,hS,h=>by
   obtain⟨h1,h2,h3,h4,h5⟩:=hS
   obtain⟨p1,p2,g1,g2,rfl⟩:=h
   refine trodAll_cons_mk (Below.trod hl h3 h4 g1 bel λx hx=> ?_) (Zh hl bel h5 g2)
   obtain⟨m,hm⟩:=g1
   exact DataW.trod_lt m _ _ _ hm x hx
 |[],[],_::_,_,_,_,h=>by simp [DataW.TrodAll]at h
 |[],[],[],_::_,_,_,h=>by simp [DataW.TrodAll]at h
 |_::_,_,[],_,_,_,h=>by simp [DataW.TrodAll]at h
 |_::_,_,_::_,[],_,_,h=>by simp [DataW.TrodAll]at h
 |[],_::_,_,_,_,h,_=>h.elim
 |_::_,[],_,_,_,h,_=>h.elim
theorem Z25: ∀{ts us:List TypeId} {ds gs:List (DataW H)} {n:Nat},n∈DataW.weightsEach P ts ds->n∈DataW.weightsEach P (ts++us) (ds++gs)
 | t::ts,us,d::ds,gs,n,h=>by
   simp only[DataW.weightsEach,List.mem_append,List.cons_append]at h⊢
   exact h.imp id Z25
 |[],_,_,_,_,h=>by simp [DataW.weightsEach]at h
 |_::_,_,[],_,_,h=>by simp [DataW.weightsEach]at h
theorem Znh{f:FuncId}{fn:Func}{s:ChangeSpec}{n:Nat}{tb:TypeId}{sig:List (Bool×List STy)}(hl:laidOutB P=true)(hS:SigOK P n fn.params.toList sig)(hres:fn.resultTypes= #[tb])(htb:P.underlying tb=some .bool)(hvars:s.vars=[])
   (hsp: ∀ds:List (DataW H),ds.length=fn.params.toList.length->(s.fn H ds).results=[.lit (.bool true)]/\(s.fn H ds).args=ds/\(s.fn H ds).vars=[]) (hlaw: ∀Ds,FitA sig Ds->Q4l P f Ds [] (.bool true) [])
   {apart:Bool} (W:World) (base:Nat) (args:Array Value) (ds gs:List (DataW H)) (before:List MemPlace) (hval: ∀(j:Nat) t v,fn.params[j]? =some t->args[j]? =some v->Value.okWide P W .any base t v) (hW:DataW.Whole enc P fn.params.toList s.vars apart W args.toList ds gs before)
   (hsz:(DataW.weightsEach P (fn.params.toList++s.plain.varTypes P) (ds++gs)).all (· <=reachBytes)=true):
   Calls P f args W λe W'=> ∃v,e= .returned v/\ChangeSpec.post enc P fn s apart true false false W args v W':=by
 have hW':=hW
 obtain⟨p,q,hA,hV,rfl,hfz,hnd⟩:=hW
 rw[hvars]at hV
 obtain⟨rfl,rfl⟩:=trodVars_none hV
 obtain⟨hlen,Ds,hf,hr⟩:=Zgy hS (λj t v a b=>hval j t v (by simpa using a) (by simpa using b)) hA (λn hn=>by simpa using List.all_eq_true.1 hsz n (Z25 hn))
 obtain⟨s1,s2,s3⟩:=hsp ds hlen
 have hw:=xH (hlaw Ds hf) hr
 rw[Array.toArray_toList]at hw
 refine hw.mono λe W' ⟨he,bel⟩=> ?_
 subst he
 refine⟨_,rfl,ds,[],_,[],p,[],hW',?_,?_,?_,bel.frame _,λh=>by cases h⟩
 . rw[hres,List.append_nil,s1]
   exact trodAll_mk1 (shut_bool htb _)
 . rw[List.append_nil,s2]
   exact Zh hl bel hS hA
 . rw[List.append_nil,s3,hvars]
   rfl
