import Derived.Test.YtmalmklaonainaaGreatReplayRefusesRun
set_option linter.all false
namespace Go.GD
open Go
def Ctx.frz(c:Ctx)(R:Rows)(ks:List Nat):Ctx:=
 {c with R:=λr=>if memB r ks=true then none else(c.R r).map (Row.frzr R ks),I:=λb=>c.I b\/ ∃r row,memB r ks=true/\c.R r=some row/\ ¬c.V r/\c.ρ r=b}
section
variable {c:Ctx} {w:World} {R:Rows} {ks:List Nat}
theorem Zdw(R:Rows)(ks:List Nat)(row:Row):(row.frzr R ks).box=row.box/\(row.frzr R ks).ty=row.ty/\(row.frzr R ks).sz=row.sz/\(row.frzr R ks).es.l.length=row.es.l.length:=by
 unfold Row.frzr;split<;>exact⟨rfl,rfl,rfl,rfl⟩
theorem Z4t: ∀{e:List D},(D.frzs R ks e).length=e.length
 |[]=>rfl
 |d::l=>by simp [D.frzs,Z4t (e:=l)]
theorem Zcn:Q3s (c.kill ks) w (c.frz R ks) w:=by
 refine⟨rfl,Nat.le_refl _,λb h=>⟨.inl h,rfl⟩,λr x hx=> ?_⟩
 obtain⟨h1,row,h2,rfl⟩:=Q3r hx
 obtain⟨s1,s2,s3,s4⟩:=Zdw R ks row
 obtain⟨k1,k2,k3,k4⟩:=Q4v ks row
 refine⟨row.frzr R ks,?_,s1.trans k1.symm,s2.trans k2.symm,s3.trans k3.symm,s4.trans k4.symm,rfl,Iff.rfl,λ_ arr h=>⟨arr,h,rfl⟩⟩
 show(if memB r ks=true then none else(c.R r).map (Row.frzr R ks))=_
 rw[h1,h2];rfl
variable (hm:Mem c w) (hA: ∀r,c.R r=R.getD r none)
include hm hA
theorem Zab{d:D}{v:Value}(h:CRep c w d v):CRep (c.frz R ks) w (d.frz1 R ks) v:=by
  have easy: ∀{d:D},CRep c w d v->CRep (c.frz R ks) w (d.kill1 ks) v:=λh=>Qtk Zcn (Qtq h)
  cases d with
  | all r=>
    simp only[D.frz1]
    cases hb:memB r ks with
    | false=>
      have:=easy h
      simpa only[D.kill1,hb] using this
    | true=>
      obtain⟨row,g1,g2,hv⟩:=h
      have hr:R.getD r none=some row:=by rw[<-hA r];exact g1
      obtain⟨box,ty,sz,es⟩:=row
      simp only at g2
      subst g2
      simp only[hr]
      rcases hv with⟨hV,a,hv,_⟩|⟨hV,cap,arr,hv,g3,g4,g5,g6⟩
      . have he:=(hm.virt g1 hV).2.1
        simp only at he
        exact⟨a,0,by rw[he];exact hv,by rw[he];exact Nat.le_refl _, .inl he⟩
      . obtain⟨arr',ha',hs,hx⟩:=hm.real g1 hV
        simp only at g5 ha' hx
        rw[g5]at ha';cases ha'
        simp only[Bool.false_eq_true,if_false]at hx
        exact⟨_,cap,hv,g3, .inr ⟨_,0,arr,_,_,rfl, .inr ⟨r,_,hb,g1,hV,rfl⟩,by simp,g5,Q1m (λb hb=>⟨.inl hb,rfl⟩) _ _ _ _ hx⟩⟩
  |_=>exact easy h
theorem Zlo: ∀{ds:List D} {vs:List Value},Q3v c w ds vs->Q3v (c.frz R ks) w (D.frzs R ks ds) vs
 |[],[],_=>trivial
 |_::_,_::_,h=>⟨Zab hm hA h.1,Zlo h.2⟩
 |[],_::_,h=>h.elim
 |_::_,[],h=>h.elim
theorem Zlv{d:D}{v:Value}(h:VRep c w d v):VRep (c.frz R ks) w (d.frzd R ks) v:=by
 cases d with
 |agg cs=>obtain⟨vs,hv,hr⟩:=h;exact⟨vs,hv,Zlo hm hA hr⟩
 | _=>
   have:=Zab (ks:=ks) hm hA (VRep.toC (λcs e=>by cases e) h)
   exact VRep.ofC this
theorem Zm4: ∀{ds:List D} {vs:List Value},Q8a c w ds vs->Q8a (c.frz R ks) w (D.frzT R ks ds) vs
 |[],[],_=>trivial
 |_::_,_::_,h=>⟨Zlv hm hA h.1,Zm4 h.2⟩
 |[],_::_,h=>h.elim
 |_::_,[],h=>h.elim
theorem vS{d:D}{v:Value}(h:Rep c w d v):Rep (c.frz R ks) w (d.frzV R ks) v:=by
 cases d with
 |tup ds=>obtain⟨vs,hv,hr⟩:=h;exact⟨vs,hv,Zm4 hm hA hr⟩
 |dead=>trivial
 | _=>
   have:=Zlv (ks:=ks) hm hA (Rep.toV (λds e=>by cases e) (λe=>by cases e) h)
   exact Rep.ofV this
theorem Zf1: ∀{ds:List D} {arr:Array Value} {off:Nat},Q4g c w ds arr off->Q4g (c.frz R ks) w (D.frzs R ks ds) arr off
 |[],_,_,_=>trivial
 |_::_,_,_,⟨⟨v,hv,h1⟩,h2⟩=>⟨⟨v,hv,Zab hm hA h1⟩,Zf1 h2⟩
theorem qaA{r:Nat}{row:Row}(h:Quy c w r row):Quy (c.frz R ks) w r (row.frzr R ks):=by
  obtain⟨s1,s2,s3,s4⟩:=Zdw R ks row
  rcases h with⟨h0,h1,h2,h3⟩|⟨h0,arr,ha,hs,hx⟩
  . refine .inl ⟨h0,s1.trans h1,?_,by rw[s3];exact h3⟩
    rw[h2]at s4;exact List.eq_nil_of_length_eq_zero s4
  . refine .inr ⟨h0,arr,by rw[s2];exact ha,by rw[s3];exact hs,?_⟩
    rw[s1,s3]
    split
    . rename_i hb
      simp only[hb,if_true]at hx
      obtain⟨e,k1,k2,k3,k4⟩:=hx
      obtain⟨box,ty,sz,es⟩:=row
      simp only at hb k1 k2 k3 k4
      subst hb;subst k1
      exact⟨D.frzs R ks e,rfl,by rw[Z4t];exact k2,k3,Zf1 hm hA k4⟩
    . rename_i hb
      simp only[hb,Bool.false_eq_true,if_false]at hx
      have he:(row.frzr R ks).es=row.es:=by
        unfold Row.frzr
        split
        . simp at hb
        . rfl
      rw[he];exact Q1m (λb hb=>⟨.inl hb,rfl⟩) _ _ _ _ hx
omit hm hA in
theorem Qvw{r:Nat}{x:Row}(h:(c.frz R ks).R r=some x):memB r ks=false/\ ∃row,c.R r=some row/\x=row.frzr R ks:=by
 simp only[Ctx.frz]at h
 cases hb:memB r ks with
 |true=>rw[hb]at h;simp at h
 | false=>
   rw[hb]at h
   simp only[Bool.false_eq_true,if_false,Option.map_eq_some_iff]at h
   obtain⟨row,h1,h2⟩:=h
   exact⟨rfl,row,h1,h2.symm⟩
theorem zaA:Mem (c.frz R ks) w:=by
 refine⟨λr x hx=> ?_,λr s x y hx hy v1 v2 he=> ?_,λb hb=> ?_,hm.top⟩
 . obtain⟨_,row,h1,rfl⟩:=Qvw hx
   exact qaA hm hA (hm.row r row h1)
 . obtain⟨_,row,h1,_⟩:=Qvw hx
   obtain⟨_,row',h2,_⟩:=Qvw hy
   exact hm.inj r s row row' h1 h2 v1 v2 he
 . rcases hb with hb|⟨s,row,h1,h2,h3,rfl⟩
   . refine⟨(hm.imm b hb).1,λr x hx v=> ?_⟩
     obtain⟨_,row,h1,_⟩:=Qvw hx
     exact(hm.imm b hb).2 r row h1 v
   . refine⟨hm.lt h2 h3,λr x hx v e=> ?_⟩
     obtain⟨h4,row',h5,_⟩:=Qvw hx
     have:=hm.inj r s row' row h5 h2 v h3 e
     rw[this,h1]at h4;cases h4
end
theorem Z7m{R0:Rows}{ks:List Nat}: ∀{R:Rows} {i r:Nat},(Z6y R0 ks R i).getD r none=if memB (i+r) ks=true then none else(R.getD r none).map (Row.frzr R0 ks)
 |[],i,r=>by simp [Z6y]
 | x::l,i,0=>by
   simp only[Z6y,Nat.add_zero]
   cases memB i ks<;>cases x<;>simp
 | x::l,i,r+1=>by
   have:=Z7m (R0:=R0) (ks:=ks) (R:=l) (i:=i+1) (r:=r)
   rw[show i+1+r=i+(r+1) by omega]at this
   simpa [Z6y] using this
def frzEnv(R:Rows)(ks:List Nat)(env:List (Nat×D)):List (Nat×D):=env.map λx=>(x.1,x.2.frzV R ks)
theorem Zlh{R:Rows}{ks:List Nat}: ∀{env:List (Nat×D)} {K:List (Nat×D)->Prop},frzE R ks env K↔K (frzEnv R ks env)
 |[],_=>Iff.rfl
 | (t,d)::l,K=>by
   simp only[frzE,D.force_iff]
   rw[Zlh (env:=l) (K:=λl=>K ((t,d.frzV R ks)::l))]
   rfl
theorem Zle{R:Rows}{ks:List Nat}: ∀{env:List (Nat×D)} {t:Nat},look (frzEnv R ks env) t=(look env t).frzV R ks
 |[],_=>rfl
 | (u,d)::l,t=>by
   simp only[frzEnv,List.map_cons,look]
   split
   . rfl
   . exact Zle (env:=l)
theorem Zba{M:Nat}{R:Rows}: ∀{l:List Nat} {r:Nat},r∈okFz M R l->M<=r
 | x ::l,r,h=>by
   simp only[okFz]at h
   split at h
   . rename_i hb
     rcases List.mem_cons.1 h with e|h
     . rw[e];rw[aE]at hb;exact lE hb.1
     . exact Zba h
   . exact Zba h
theorem xaA{N M:Nat}{c0:Ctx}{w0:World}{c:Ctx}{w:World}{st:St}{a:Act}{T:Tab}{G:List Q0d}{ops:Array Oper}{K:St->Prop}(h:frzK T G M ops st K)(hs:SimS N M c0 w0 c w st a): ∃st' c',K st'/\SimS N M c0 w0 c' w st' a:=by
 unfold frzK at h
 split at h
 . exact⟨st,c,h,hs⟩
 . rename_i ks hk
   have hM: ∀k,memB k (okFz M st.rows (Zlk T G st.env st.rows [] [] ops.toList))=true->M<=k:=λk hk=>Zba (Q39.1 hk)
   generalize okFz M st.rows (Zlk T G st.env st.rows [] [] ops.toList)=ks at*
   rw[Zlh,Q1s]at h
   have hm:=zaA (ks:=ks) hs.mem hs.rows
   refine⟨_,c.frz st.rows ks,h,hm,λr=> ?_,λt=> ?_,hs.size,hs.defers,hs.base0,hs.own0,hs.reach.step (ks:=ks) hM hs.own0 ⟨hm,Zcn,Fr.refl _ w,λb hb=> ?_,λr row' hr hv=> ?_⟩⟩
   . rw[Z7m,Nat.zero_add,<-hs.rows r];rfl
   . rw[Zle];exact vS hs.mem hs.rows (hs.env t)
   . rcases hb with hb|hb
     . exact .inl hb
     . exact .inr (.inl hb)
   . obtain⟨_,row,h1,_⟩:=Qvw hr
     exact .inl ⟨⟨row,h1⟩,hv,rfl⟩
