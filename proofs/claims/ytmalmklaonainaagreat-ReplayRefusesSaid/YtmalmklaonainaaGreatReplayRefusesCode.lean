import Derived.Test.YtmalmklaonainaaGreatReplayRefusesOp
set_option linter.all false
namespace Go.GD
open Go
def Ctx.kill(c:Ctx)(ks:List Nat):Ctx:={c with R:=λr=>if memB r ks=true then none else(c.R r).map (Row.kill ks)}
structure NxtK(ks:List Nat)(c:Ctx)(w:World)(c':Ctx)(w':World):Prop where
 mem:Mem c' w'
 grows:Q3s (c.kill ks) w c' w'
 fr:Fr (λb=> ∃r x,c.R r=some x/\ ¬c.V r/\c.ρ r=b) w w'
 imm: ∀b,c'.I b->c.I b\/(∃s row,memB s ks=true/\c.R s=some row/\ ¬c.V s/\c.ρ s=b)\/w.heap.size<=b
 rho: ∀r row',c'.R r=some row'-> ¬c'.V r->((∃row,c.R r=some row)/\ ¬c.V r/\c'.ρ r=c.ρ r)\/(∃s row,memB s ks=true/\c.R s=some row/\ ¬c.V s/\c'.ρ r=c.ρ s)\/w.heap.size<=c'.ρ r
def Q4l(P:Program)(f:FuncId)(args:List D)(rows:List Row)(res:D)(rows':List Row):Prop:=
 ∀ (c:Ctx) (w:World) (vs:List Value),Mem c w->c.base=w.heap.size->(∀r,c.R r=rows[r]?)->Q8a c w args vs->
   Calls P f vs.toArray w λe w'=> ∃v c',e= .returned v/\NxtW c w c' w'/\(∀r,c'.R r=rows'[r]?)/\Rep c' w' res v
def Z4n(P:Program)(I:Blocks)(f:FuncId)(vs:List Value)(w:World)(R:Ending->World->Prop):Prop:=
 (f<YB->Calls P f vs.toArray w R)/\
 (YB<=f-> ∀l rec xs us,vs=xs++us->I l->w.heap[l]? =some (.loop rec)->YRec f us rec->xs.length=1->
   RoundIn Fence.wide 0 P l rec.fn ((rec.params.zip xs.toArray).foldl (λtmps (t,a)=>tmps.setIfInBounds t a) rec.tmps) rec.assign rec.body w R)
theorem Z4n.mono{P:Program}{I I':Blocks}{f:FuncId}{vs:List Value}{w:World}{R R':Ending->World->Prop}(h:Z4n P I f vs w R)(hI: ∀b,I' b->I b)(hR: ∀e w',R e w'->R' e w'):Z4n P I' f vs w R':=
 ⟨λhf=>(h.1 hf).mono hR,λhf l rec xs us h1 h2 h3 h4 h5=>(h.2 hf l rec xs us h1 (hI l h2) h3 h4 h5).mono hR⟩
theorem Z4n.real{P:Program}{I:Blocks}{f:FuncId}{vs:List Value}{w:World}{R:Ending->World->Prop}(hf:f<YB)(h:Calls P f vs.toArray w R):Z4n P I f vs w R:=⟨λ_=>h,λhg=>absurd hf (Nat.not_lt.2 hg)⟩
def Qew(P:Program)(f:FuncId)(k:Nat)(args:List D)(rows:List Row)(res:D)(rows':List Row):Prop:=
 ∀ (c:Ctx) (w:World) (vs:List Value),Mem c w->c.base=0->(∀r,c.R r=rows[r]?)->Q8a c w args vs->
   Z4n P c.I f vs w λe w'=> ∃v c',e= .returned v/\NxtK (List.range' k (rows.length-k)) c w c' w'/\(∀r,c'.R r=rows'[r]?)/\Rep c' w' res v
def scal:D->Prop| .int _ _=>True| .bool _=>True| .str _=>True| .nils=>True| .nilp=>True| .emp=>True|_=>False
def CT.scal:CT->Bool| .int _=>true| .bool=>true| .str=>true|_=>false
def RK.scal(k:RK):Bool:=k.sig.all CT.scal
def Els.Scal:Els->Prop
 | .gen es=> ∀e∈es,∀d∈e,scal d
 | .recs k _=>k.scal=true
 |_=>True
theorem Z81: ∀{ts:List CT} {cs:List D} {j:Nat},ts.all CT.scal=true-> ∀d∈Qt0 ts cs j,scal d
 |[],_,_,_,d,h=>by simp [Qt0]at h
 | t ::ts,cs,j,ht,d,h=>by
   simp only[List.all_cons,aE]at ht
   simp only[Qt0,List.mem_cons]at h
   rcases h with h|h
   . subst h
     cases t<;>first|trivial|(simp [CT.scal]at ht)
   . exact Z81 ht.2 d h
theorem Els.Scal_l{E:Els}(h:E.Scal): ∀e∈E.l,∀d∈e,scal d:=by
 cases E with
 |gen es=>exact h
 | ints k l=>
   intro e he d hd
   simp only[Els.l,List.mem_map]at he
   obtain⟨n,_,rfl⟩:=he
   simp at hd
   subst hd;trivial
 | bools l=>
   intro e he d hd
   simp only[Els.l,List.mem_map]at he
   obtain⟨n,_,rfl⟩:=he
   simp at hd
   subst hd;trivial
 | recs k l=>
   intro e he d hd
   simp only[Els.l,List.mem_map]at he
   obtain⟨x,_,rfl⟩:=he
   rw[<-RK.conv_cells]at hd
   exact Z81 h d hd
def FF1:D->Prop
 | .sl _ es fr=>(es.Nil\/fr=true)/\es.Scal
 | .iptr _ _ _ _=>False
 | .clo _ _=>False
 |_=>True
def FFs:List D->Prop
 |[]=>True
 |d::ds=>FF1 d/\FFs ds
def FF2:D->Prop
 | .agg cs=>FFs cs
 |d=>FF1 d
def FF2s:List D->Prop
 |[]=>True
 |d::ds=>FF2 d/\FF2s ds
def FF:D->Prop
 | .tup ds=>FF2s ds
 |d=>FF2 d
def FFR(row:Row):Prop:=if row.box then∀e∈row.es.l,FFs e else row.es.Scal
def FFRs:List Row->Prop
 |[]=>True
 |r::l=>FFR r/\FFRs l
structure Q05(P:Program)(x:Q0d):Prop where
 enters:x.f<YB-> ∀args w,(callFunc x.f args).run P w= .ok (.enter x.f args) w
 real:x.gone=none->x.f<YB
 ok:x.gone=none-> ∀args rows res rows',x.m args rows= .ok res rows'->Q4l P x.f args rows res rows'/\(x.flat=true->FF res/\FFRs rows')
 when:x.gone=none-> ∀args rows p res rows',x.m args rows= .when p res rows'->p->Q4l P x.f args rows res rows'/\(x.flat=true->FF res/\FFRs rows')
 abs:x.gone=none-> ∀args rows α v res rows',x.m args rows= .abs α v res rows'->Q4l P x.f args rows (res v) (rows' v)/\(x.flat=true->FF (res v)/\FFRs (rows' v))
 absW:x.gone=none-> ∀args rows p α v res rows',x.m args rows= .absW p α v res rows'->p->Q4l P x.f args rows (res v) (rows' v)/\(x.flat=true->FF (res v)/\FFRs (rows' v))
 kabs: ∀k,x.gone=some k-> ∀args rows α v res rows',x.m args rows= .abs α v res rows'->Qew P x.f k args rows (res v) (rows' v)
 kabsW: ∀k,x.gone=some k-> ∀args rows p α v res rows',x.m args rows= .absW p α v res rows'->p->Qew P x.f k args rows (res v) (rows' v)
def Q7j(P:Program)(G:List Q0d):Prop:= ∀x∈G,Q05 P x
theorem Qkr{P:Program}: ∀{G:List Q0d} {f:FuncId} {x:Q0d},Q7j P G->Ql4 G f=some x->Q05 P x/\x.f=f
 |[],f,x,_,h=>by simp [Ql4]at h
 | y ::l,f,x,hG,h=>by
   simp only[Ql4]at h
   split at h
   . rename_i hb
     simp at h;subst h
     exact⟨hG y (by simp),bE hb⟩
   . exact Qkr (λz hz=>hG z (by simp [hz])) h
theorem Zlj: ∀{rows:List Row} {i:Nat} {row:Row},FFRs rows->rows[i]? =some row->FFR row
 |r::l,0,row,h,hi=>by simp at hi;subst hi;exact h.1
 |r::l,i+1,row,h,hi=>Zlj h.2 (by simpa using hi)
 |[],i,row,_,hi=>by simp at hi
theorem Q39{r:Nat}: ∀{l:List Nat},memB r l=true↔r∈l
 |[]=>by simp [memB]
 | x ::l=>by
   simp only[memB]
   cases hb:Nat.beq x r with
   |true=>have:=bE hb;subst this;simp
   | false=>
     have hne: ¬r=x:=λe=>by rw[e]at hb;simp at hb
     simp [Q39 (l:=l),hne]
theorem Qqa: ∀{l m:List Nat},subB l m=true↔ ∀r∈l,r∈m
 |[],m=>by simp [subB]
 | x::l,m=>by
   simp only[subB]
   cases hb:memB x m with
   |true=>simp [Qqa (l:=l),Q39.1 hb]
   |false=>simp [show¬x∈m from λe=>by rw[Q39.2 e]at hb;cases hb]
theorem Z0l: ∀{l m:List Nat},disB l m=true↔ ∀r∈l,¬r∈m
 |[],m=>by simp [disB]
 | x::l,m=>by
   simp only[disB]
   cases hb:memB x m with
   |true=>simp [Q39.1 hb]
   |false=>simp [Z0l (l:=l),show¬x∈m from λe=>by rw[Q39.2 e]at hb;cases hb]
theorem Qi6: ∀{l:List Nat},Qrb l=true↔l.Nodup
 |[]=>by simp [Qrb]
 | x::l=>by
   simp only[Qrb,List.nodup_cons]
   cases hb:memB x l with
   |true=>simp [Q39.1 hb]
   |false=>simp [Qi6 (l:=l),show¬x∈l from λe=>by rw[Q39.2 e]at hb;cases hb]
theorem Zmf{r:Nat}: ∀{l:List Nat} {k:Nat},r∈l-> ∃j,pos r l k=k+j/\l[j]? =some r
 | x ::l,k,h=>by
   simp only[pos]
   cases hb:Nat.beq x r with
   |true=>exact⟨0,rfl,by simp [bE hb]⟩
   | false=>
     have hne: ¬r=x:=λe=>by rw[e]at hb;simp at hb
     have hm:r∈l:=by simpa [hne] using h
     obtain⟨j,h1,h2⟩:=Zmf (k:=k+1) hm
     exact⟨j+1,by show pos r l (k+1)=_;rw[h1];omega,by simpa using h2⟩
theorem Qh3{r:Nat}{l:List Nat}(h:r∈l):l[pos r l 0]? =some r:=by
 obtain⟨j,h1,h2⟩:=Zmf (k:=0) h
 rw[h1,Nat.zero_add];exact h2
structure Z5k(S:Nat->Prop)(f:Nat->Nat)(keep:Bool)(c1 c2:Ctx):Prop where
 row: ∀i row,S i->c1.R i=some row-> ∃row',c2.R (f i)=some row'/\row'.box=row.box/\row'.ty=row.ty/\row'.sz=row.sz/\row'.es.l.length=row.es.l.length/\c2.ρ (f i)=c1.ρ i/\(c2.V (f i)↔c1.V i)
 base:keep=true->c2.base<=c1.base
 top:c1.top<=c2.top
theorem xF{I I':Blocks}{w:World}{d:D}{v:Value}(hs:scal d)(h:PRep I w d v):PRep I' w d v:=by
 cases h<;>first|exact hs.elim|constructor
theorem Z76{I I':Blocks}{w:World}: ∀{cs:List D} {arr:Array Value} {off:Nat},(∀d∈cs,scal d)->Qev I w cs arr off->Qev I' w cs arr off
 |[],_,_,_,_=>by simp [Qdc,Qag]
 | d::cs,arr,off,hs,h=>by
   simp only[Qdc,Qag]at h⊢
   obtain⟨⟨v,hv,hp⟩,hr⟩:=h
   exact⟨⟨v,hv,xF (hs d (by simp)) hp⟩,Z76 (λe he=>hs e (by simp [he])) hr⟩
theorem Qvz{I I':Blocks}{w:World}: ∀{es:List (List D)} {arr:Array Value} {off sz:Nat},(∀e∈es,∀d∈e,scal d)->Q1r I w es arr off sz->Q1r I' w es arr off sz
 |[],_,_,_,_,_=>by simp [Q2v,Q2a]
 | e::es,arr,off,sz,hs,h=>by
   simp only[Q2v,Q2a]at h⊢
   exact⟨h.1,Z76 (hs e (by simp)) h.2.1,Qvz (λf hf=>hs f (by simp [hf])) h.2.2⟩
theorem VRep.ofC{c:Ctx}{w:World}{d:D}{v:Value}(h:CRep c w d v):VRep c w d v:=by cases d<;>first|exact h|exact h.elim
theorem VRep.toC{c:Ctx}{w:World}{d:D}{v:Value}(hd: ∀cs,d≠ .agg cs)(h:VRep c w d v):CRep c w d v:=by cases d<;>first|exact h|exact absurd rfl (hd _)
theorem Rep.ofV{c:Ctx}{w:World}{d:D}{v:Value}(h:VRep c w d v):Rep c w d v:=by cases d<;>first|exact h|exact h.elim|trivial
theorem Rep.toV{c:Ctx}{w:World}{d:D}{v:Value}(hd: ∀ds,d≠ .tup ds)(h0:d≠ .dead)(h:Rep c w d v):VRep c w d v:=by cases d<;>first|exact h|exact absurd rfl (hd _)|exact absurd rfl h0
theorem Z21{f:Nat->Nat}{keep:Bool}: ∀{e:List D},(D.rens f keep e).length=e.length
 |[]=>rfl
 |d::l=>by simp [D.rens,Z21 (e:=l)]
section
variable {S:Nat->Prop} {f:Nat->Nat} {keep:Bool} {c1 c2:Ctx} {w:World} (hn:Z5k S f keep c1 c2) {flat:Prop} (hI:(∀b,c1.I b->c2.I b)\/(flat/\ ∀b,c1.I b->c1.base<=b->c2.I b))
include hn hI
theorem Zcl{d:D}{v:Value}(hne: ∀f cs,d≠ .clo f cs)(hS: ∀r∈Q8x d,S r)(hff:flat->FF1 d)(h:CRep c1 w d v):CRep c2 w (d.ren1 f keep) v:=by
  cases d with
  | sl sz es fr=>
    obtain⟨a,cap,hv,hc,hes⟩:=h
    refine⟨a,cap,hv,hc,?_⟩
    rcases hes with hes|⟨b,off,arr,ty,fz,ha,hbI,hf,hh,hE⟩
    . exact .inl hes
    . have hb:(fr&&keep)=true->c2.base<=b:=λe=>by
        simp only[aE]at e
        exact Nat.le_trans (hn.base e.2) (hf e.1)
      rcases hI with hi|⟨hfl,hi⟩
      . exact .inr ⟨b,off,arr,ty,fz,ha,hi b hbI,hb,hh,Q1m (λb hb=>⟨hi b hb,rfl⟩) _ _ _ _ hE⟩
      . obtain⟨h1,h2⟩:=hff hfl
        rcases h1 with h1|h1
        . exact .inl (Els.Nil_l.1 h1)
        . exact .inr ⟨b,off,arr,ty,fz,ha,hi b hbI (hf h1),hb,hh,Qvz (Els.Scal_l h2) hE⟩
  | all r=>
    obtain⟨row,hr,hb,h⟩:=h
    obtain⟨row',g1,g2,g3,g4,g5,g6,gV⟩:=hn.row r row (hS r (by simp [Q8x])) hr
    refine⟨row',g1,g2.trans hb,?_⟩
    rcases h with⟨hV,hv⟩|⟨hV,cap,arr,hv,h1,h2,h3,h4⟩
    . obtain⟨a,hv,ho⟩:=hv;exact .inl ⟨gV.2 hV,a,hv,ho.mono hn.top⟩
    . exact .inr ⟨λe=>hV (gV.1 e),cap,arr,by rw[hv,g5,g6],by rw[g5];exact h1,h2,by rw[g6,g3];exact h3,by rw[g4];exact h4⟩
  | own r o n=>
    obtain⟨row,hr,hb,ho,h⟩:=h
    obtain⟨row',g1,g2,g3,g4,g5,g6,gV⟩:=hn.row r row (hS r (by simp [Q8x])) hr
    refine⟨row',g1,g2.trans hb,by rw[g5];exact ho,?_⟩
    rcases h with⟨h0,a,hv,ho'⟩|⟨hV,cap,arr,h1,h2,h3,h4,h5⟩
    . exact .inl ⟨h0,a,hv,ho'.mono hn.top gV g6⟩
    . exact .inr ⟨λe=>hV (gV.1 e),cap,arr,h1,h2,by rw[g6,g3];exact h3,by rw[g4,g6];exact h4,by rw[g4];exact h5⟩
  | ptr r i off=>
    obtain⟨row,hr,hV,hi,hv⟩:=h
    obtain⟨row',g1,g2,g3,g4,g5,g6,gV⟩:=hn.row r row (hS r (by simp [Q8x])) hr
    exact⟨row',g1,λe=>hV (gV.1 e),by rw[g5];exact hi,by rw[hv,g6,g4]⟩
  | pa r i off len k n=>
    obtain⟨hlt,row,hr,hV,hi,hv⟩:=h
    obtain⟨row',g1,g2,g3,g4,g5,g6,gV⟩:=hn.row r row (hS r (by simp [Q8x])) hr
    exact⟨hlt,row',g1,λe=>hV (gV.1 e),by rw[g5];exact hi,by rw[hv,g6,g4]⟩
  | iptr sz es i off=>
    obtain⟨b,o,arr,ty,fz,hv,hbI,hi',hh,hE⟩:=h
    rcases hI with hi|⟨hfl,hi⟩
    . exact⟨b,o,arr,ty,fz,hv,hi b hbI,hi',hh,Q1m (λb hb=>⟨hi b hb,rfl⟩) _ _ _ _ hE⟩
    . exact(hff hfl).elim
  | selfp r=>
    rcases h with h|⟨row,hr,hV,hi,hv⟩
    . exact .inl h
    . obtain⟨row',g1,g2,g3,g4,g5,g6,gV⟩:=hn.row r row (hS r (by simp [Q8x])) hr
      exact .inr ⟨row',g1,λe=>hV (gV.1 e),by rw[g5];exact hi,by rw[hv,g6,g4]⟩
  |clo f cs=>exact absurd rfl (hne f cs)
  |emp=>obtain⟨a,hv,ho⟩:=h;exact⟨a,hv,ho.mono hn.top⟩
  |_=>exact h
theorem Zce{d:D}{v:Value}(hS: ∀r∈Q8x d,S r)(hff:flat->FF1 d)(h:CRep c1 w d v):CRep c2 w (d.ren1 f keep) v:=by
 by_cases e: ∃g cs,d= .clo g cs
 . obtain⟨g,cs,rfl⟩:=e
   obtain⟨us,hv,hu⟩:=h
   have hi: ∀b,c1.I b->c2.I b/\w.heap[b]? =w.heap[b]? :=by
     rcases hI with hi|⟨hfl,_⟩
     . exact λb hb=>⟨hi b hb,rfl⟩
     . exact(hff hfl).elim
   exact⟨us,Qqc hi hv,Zam (Fk:=λ_=>True) (λd v h1 h2 h3=>Zcl hn (flat:=False) (.inl λb hb=>(hi b hb).1) h1 h2 (λe=>e.elim) h3) (λ_ _ _ _=>Qqc hi) (λ_ _ _=>trivial) hS hu⟩
 . exact Zcl hn hI (λf cs e'=>e ⟨f,cs,e'⟩) hS hff h
theorem Zm3: ∀{ds:List D} {vs:List Value},(∀r∈Qdj ds,S r)->(flat->FFs ds)->Q3v c1 w ds vs->Q3v c2 w (D.rens f keep ds) vs
 |[],[],_,_,_=>trivial
 |d::ds,v::vs,hS,hff,h=>⟨Zce hn hI (λr hr=>hS r (by simp [Qdj,hr])) (λe=>(hff e).1) h.1,Zm3 (λr hr=>hS r (by simp [Qdj,hr])) (λe=>(hff e).2) h.2⟩
 |[],_::_,_,_,h=>h.elim
 |_::_,[],_,_,h=>h.elim
theorem Z15{d:D}{v:Value}(hS: ∀r∈Z9o d,S r)(hff:flat->FF2 d)(h:VRep c1 w d v):VRep c2 w (d.ren f keep) v:=by
 cases d with
 |agg cs=>obtain⟨vs,hv,hr⟩:=h;exact⟨vs,hv,Zm3 hn hI hS hff hr⟩
 |tup ds=>exact h.elim
 | _=>
   refine VRep.ofC (Zce hn hI ?_ ?_ (VRep.toC ?_ h))
   . exact hS
   . exact hff
   . intro cs e;cases e
theorem Zma: ∀{ds:List D} {vs:List Value},(∀d∈ds,∀r∈Z9o d,S r)->(flat->FF2s ds)->Q8a c1 w ds vs->Q8a c2 w (D.renT f keep ds) vs
 |[],[],_,_,_=>trivial
 |d::ds,v::vs,hS,hff,h=>⟨Z15 hn hI (hS d (by simp)) (λe=>(hff e).1) h.1,Zma (λd hd=>hS d (by simp [hd])) (λe=>(hff e).2) h.2⟩
 |[],_::_,_,_,h=>h.elim
 |_::_,[],_,_,h=>h.elim
theorem Zae{d:D}{v:Value}(hS: ∀r,S r)(hff:flat->FF d)(h:Rep c1 w d v):Rep c2 w (d.renV f keep) v:=by
 cases d with
 |tup ds=>obtain⟨vs,hv,hr⟩:=h;exact⟨vs,hv,Zma hn hI (λ_ _ r _=>hS r) hff hr⟩
 |agg cs=>exact Z15 hn hI (d:= .agg cs) (λr _=>hS r) hff h
 |dead=>trivial
 | _=>
   have h':=Rep.toV (λds e=>by cases e) (λe=>by cases e) h
   have h2:=Z15 hn hI (λr _=>hS r) (λe=>by have:=hff e;exact this) h'
   exact Rep.ofV h2
theorem Qtv: ∀{ds:List D} {arr:Array Value} {off:Nat},(∀r∈Qdj ds,S r)->(flat->FFs ds)->Q4g c1 w ds arr off->Q4g c2 w (D.rens f keep ds) arr off
 |[],_,_,_,_,_=>trivial
 |d::ds,arr,off,hS,hff,⟨⟨v,hv,h1⟩,h2⟩=>⟨⟨v,hv,Zce hn hI (λr hr=>hS r (by simp [Qdj,hr])) (λe=>(hff e).1) h1⟩,Qtv (λr hr=>hS r (by simp [Qdj,hr])) (λe=>(hff e).2) h2⟩
theorem Zil{i j:Nat}{row:Row}(hρ:c2.ρ j=c1.ρ i)(hV:c2.V j↔c1.V i)(hS:row.box=true-> ∀e,row.es= .gen [e]-> ∀r∈Qdj e,S r)(hff:flat->FFR row)(h:Quy c1 w i row):Quy c2 w j (row.ren f keep):=by
  have sh:(row.ren f keep).box=row.box/\(row.ren f keep).ty=row.ty/\(row.ren f keep).sz=row.sz:=by
    unfold Row.ren;split<;>exact⟨rfl,rfl,rfl⟩
  rcases h with⟨h0,h1,h2,h3⟩|⟨h0,arr,ha,hs,hx⟩
  . refine .inl ⟨hV.2 h0,?_⟩
    unfold Row.ren
    split
    . simp at h1
    . exact⟨h1,h2,h3⟩
  . refine .inr ⟨λe=>h0 (hV.1 e),arr,by rw[hρ,sh.2.1];exact ha,by rw[sh.2.2];exact hs,?_⟩
    rw[sh.1,sh.2.2]
    split
    . rename_i hb
      simp only[hb,if_true]at hx
      obtain⟨e,k1,k2,k3,k4⟩:=hx
      obtain⟨box,ty,sz,es⟩:=row
      simp only at hb k1 k2 k3 k4
      subst hb;subst k1
      refine⟨D.rens f keep e,rfl,?_,k3,Qtv hn hI (hS rfl e rfl) (λe'=> ?_) k4⟩
      . rw[Z21];exact k2
      . have:=hff e'
        simp only[FFR,if_true]at this
        exact this e (by simp [Els.l])
    . rename_i hb
      simp only[hb,Bool.false_eq_true,if_false]at hx
      have he:(row.ren f keep).es=row.es:=by
        unfold Row.ren
        split
        . simp at hb
        . rfl
      rw[he]
      rcases hI with hi|⟨hfl,hi⟩
      . exact Q1m (λb hb=>⟨hi b hb,rfl⟩) _ _ _ _ hx
      . have:=hff hfl
        simp only[FFR,hb,Bool.false_eq_true,if_false]at this
        exact Qvz (Els.Scal_l this) hx
end
def Ctx.pass(c:Ctx)(w:World)(ids:List Nat)(rows:List Row)(len:Bool):Ctx:=
 { ρ:=λi=>match ids[i]? with|some r=>c.ρ r|none=>0,R:=λi=>rows[i]?,V:=λi=>match ids[i]? with|some r=>c.V r|none=>False,
   I:=λb=>c.I b\/(len=true/\ ∃r row,c.R r=some row/\ ¬c.V r/\row.box=false/\r∉ids/\c.ρ r=b),base:=w.heap.size,top:=c.top,X:=λ_=>False}
section
variable {c:Ctx} {w:World} {R:Rows} {ids:List Nat} {crows:List Row} {len:Bool}
theorem Zlg(hm:Mem c w)(hA:Q7p c R){d d':D}{v:Value}(h:Zbo R d=some d')(hl:Q8x d≠[]->len=true)(hd: ∀r∈Q8x d,r∉ids)(hr:CRep c w d v):CRep (c.pass w ids crows len) w d' v:=by
  have himm: ∀b,c.I b->(c.pass w ids crows len).I b/\w.heap[b]? =w.heap[b]? :=λb hb=>⟨.inl hb,rfl⟩
  cases d<;>simp only[Zbo]at h<;>try(cases h;done)
  case bool b=>cases h;exact hr
  case int k n=>cases h;exact hr
  case str s=>cases h;exact hr
  case nilp=>cases h;exact hr
  case nilif=>cases h;exact hr
  case nils=>cases h;exact⟨none,0,hr,Nat.le_refl _, .inl rfl⟩
  case emp=>cases h;obtain⟨a,hv,_⟩:=hr;exact⟨a,0,hv,Nat.le_refl _, .inl rfl⟩
  case sl sz es fr=>
    cases h
    obtain⟨a,cap,hv,hc,hes⟩:=hr
    refine⟨a,cap,hv,hc,?_⟩
    rcases hes with hes|⟨b,off,arr,ty,fz,ha,hI,hf,hh,hE⟩
    . exact .inl hes
    . exact .inr ⟨b,off,arr,ty,fz,ha, .inl hI,by simp,hh,Q1m himm _ _ _ _ hE⟩
  case all r=>
    split at h
    . rename_i row hR
      split at h
      . rename_i hb
        cases h
        obtain⟨row',g1,g2,hv⟩:=hr
        have:=hA r row' _ g1 hR
        subst this
        rcases hv with⟨hV,a,hv,_⟩|⟨hV,cap,arr,hv,g3,g4,g5,g6⟩
        . have he:=(hm.virt g1 hV).2.1
          exact⟨a,0,by rw[he];exact hv,by rw[he];exact Nat.le_refl _, .inl he⟩
        refine⟨_,cap,hv,g3,?_⟩
        obtain⟨arr',ha',hs,hx⟩:=hm.real g1 hV
        rw[g5]at ha';cases ha'
        simp only[hb,Bool.false_eq_true,if_false]at hx
        exact .inr ⟨_,0,arr,_,_,rfl, .inr ⟨hl (by simp [Q8x]),r,_,g1,hV,hb,hd r (by simp [Q8x]),rfl⟩,by simp,g5,Q1m himm _ _ _ _ hx⟩
      . cases h
    . cases h
  case own r o n=>
    split at h
    . rename_i row hR
      split at h
      . rename_i hb
        cases h
        obtain⟨row',g1,g2,g5,hv⟩:=hr
        have:=hA r row' _ g1 hR
        subst this
        have hlen:((row'.es.drop o).take n).l.length=n:=by rw[Els.take_l,Els.drop_l];simp only[List.length_take,List.length_drop];omega
        rcases hv with⟨g7,a,hv,_⟩|⟨hV,cap,arr,g3,g4,g6,hv,g7⟩
        . subst g7
          exact⟨a,0,by rw[hlen];exact hv,by omega, .inl (by rw[Els.take_l];simp)⟩
        obtain⟨arr',ha',hs,hx⟩:=hm.real g1 hV
        rw[g6]at ha';cases ha'
        simp only[hb,Bool.false_eq_true,if_false]at hx
        refine⟨_,cap,by rw[hlen];exact hv,by omega, .inr ⟨_,o*row'.sz,arr,_,_,rfl, .inr ⟨hl (by simp [Q8x]),r,_,g1,hV,hb,hd r (by simp [Q8x]),rfl⟩,by simp,g6,Q1m himm _ _ _ _ ?_⟩⟩
        have:=Qfn (n:=n) (Qex (l:=o) hx)
        rw[Els.take_l,Els.drop_l]
        simpa using this
      . cases h
    . cases h
theorem Zkt(hm:Mem c w)(hA:Q7p c R): ∀{ds ds':List D} {vs:List Value},Zk8 R ds=some ds'->(Qdj ds≠[]->len=true)->(∀r∈Qdj ds,r∉ids)->Q3v c w ds vs->Q3v (c.pass w ids crows len) w ds' vs
 |[],ds',[],h,_,_,_=>by simp [Zk8]at h;subst h;trivial
 |[],_,_::_,_,_,_,hr=>hr.elim
 |_::_,_,[],_,_,_,hr=>hr.elim
 | d ::ds,ds',v::vs,h,hl,hd,hr=>by
   simp only[Zk8]at h
   split at h
   . rename_i x xs h1 h2
     cases h
     exact⟨Zlg hm hA h1 (λe=>hl (by simp [Qdj,e])) (λr e=>hd r (by simp [Qdj,e])) hr.1,Zkt hm hA h2 (λe=>hl (by simp [Qdj,e])) (λr e=>hd r (by simp [Qdj,e])) hr.2⟩
   . cases h
theorem Zm8(hm:Mem c w)(hA:Q7p c R){d d':D}{v:Value}(h:conv R d=some d')(hl:Z9o d≠[]->len=true)(hd: ∀r∈Z9o d,r∉ids)(hr:Rep c w d v):VRep (c.pass w ids crows len) w d' v:=by
 cases d with
 | agg cs=>
   simp only[conv,Option.map_eq_some_iff]at h
   obtain⟨cs',h1,rfl⟩:=h
   obtain⟨vs,hv,hx⟩:=hr
   exact⟨vs,hv,Zkt hm hA h1 hl hd hx⟩
 |tup ds=>simp [conv,Zbo]at h
 |dead=>simp [conv,Zbo]at h
 | _=>
   simp only[conv]at h
   simp only[Rep,VRep]at hr
   exact VRep.ofC (Zlg hm hA h hl hd hr)
theorem Qax{f:Nat->Nat}: ∀{ids:List Nat} {rows:List Row},Qng R f ids=some rows->rows.length=ids.length/\ ∀(i r:Nat),ids[i]? =some r-> ∃row,R.getD r none=some row/\rows[i]? =some (row.ren f false)
 |[],rows,h=>by simp [Qng]at h;subst h;exact⟨rfl,λi r h=>by simp at h⟩
 | r ::l,rows,h=>by
   simp only[Qng]at h
   split at h
   . rename_i row rs h1 h2
     cases h
     obtain⟨g1,g2⟩:=Qax h2
     refine⟨by simp [g1],λi q hq=> ?_⟩
     cases i with
     |zero=>simp at hq;subst hq;exact⟨row,h1,rfl⟩
     |succ i=>exact g2 i q (by simpa using hq)
   . cases h
theorem Qjd(f:Nat->Nat)(keep:Bool)(row:Row):(row.ren f keep).box=row.box/\(row.ren f keep).ty=row.ty/\(row.ren f keep).sz=row.sz/\(row.ren f keep).es.l.length=row.es.l.length:=by
 unfold Row.ren;split<;>exact⟨rfl,rfl,rfl,rfl⟩
theorem Z1f{r:Nat}: ∀{l:List Nat},r∈Qk R l↔ ∃q∈l,∃ty sz e,R.getD q none=some ⟨true,ty,sz, .gen [e]⟩/\r∈Qdj e
  |[]=>by simp [Qk]
  | q ::l=>by
    simp only[Qk,List.mem_append,Z1f (l:=l),List.mem_cons]
    constructor
    . rintro(h|⟨q',h1,h2⟩)
      . split at h
        . rename_i ty sz e he
          exact⟨q, .inl rfl,ty,sz,e,he,h⟩
        . simp at h
      . exact⟨q', .inr h1,h2⟩
    . rintro⟨q',h1|h1,ty,sz,e,h2,h3⟩
      . subst h1
        left
        rw[h2];exact h3
      . exact .inr ⟨q',h1,ty,sz,e,h2,h3⟩
theorem Qq8(hR: ∀r row,r∈ids->R.getD r none=some row->c.R r=some row)(hrows:Qng R (λr=>pos r ids 0) ids=some crows):Z5k (λr=>r∈ids) (λr=>pos r ids 0) false c (c.pass w ids crows len):=by
 obtain⟨hl,hg⟩:=Qax hrows
 refine⟨λr row hr hrow=> ?_,(λh=>by cases h),Nat.le_refl _⟩
 have hp:=Qh3 hr
 obtain⟨row0,h1,h2⟩:=hg _ r hp
 have:row=row0:=by have:=hR r row0 hr h1;rw[hrow]at this;exact Option.some.inj this
 subst this
 obtain⟨s1,s2,s3,s4⟩:=Qjd (λr=>pos r ids 0) false row
 exact⟨_,h2,s1,s2,s3,s4,by simp [Ctx.pass,hp],by simp [Ctx.pass,hp]⟩
theorem Zch(hm:Mem c w)(hR: ∀r row,r∈ids->R.getD r none=some row->c.R r=some row)(hnd:ids.Nodup)(hcl: ∀r∈Qk R ids,r∈ids)(hrows:Qng R (λr=>pos r ids 0) ids=some crows):Mem (c.pass w ids crows len) w:=by
 have hn:=Qq8 (len:=len) (w:=w) hR hrows
 obtain⟨hl,hg⟩:=Qax hrows
 have inv: ∀i x,(c.pass w ids crows len).R i=some x-> ∃r row,ids[i]? =some r/\c.R r=some row/\R.getD r none=some row/\x=row.ren (λr=>pos r ids 0) false/\(c.pass w ids crows len).ρ i=c.ρ r/\((c.pass w ids crows len).V i↔c.V r):=by
   intro i x hx
   have hx':crows[i]? =some x:=hx
   have hlt:=(List.getElem?_eq_some_iff.1 hx').1
   have hi:ids[i]? =some ids[i]:=List.getElem?_eq_getElem (by omega)
   obtain⟨row,h1,h2⟩:=hg i _ hi
   rw[hx']at h2
   exact⟨_,row,hi,hR _ row (List.mem_of_getElem? hi) h1,h1,Option.some.inj h2,by simp [Ctx.pass,hi],by simp [Ctx.pass,hi]⟩
 refine⟨λi x hx=> ?_,λi j x y hx hy v1 v2 he=> ?_,λb hb=> ?_,hm.top⟩
 . obtain⟨r,row,g1,g2,g3,rfl,g5,g6⟩:=inv i x hx
   refine Zil hn (flat:=False) (.inl λb hb=> .inl hb) g5 g6 (λhbox e he q hq=> ?_) (λe=>e.elim) (hm.row r row g2)
   obtain⟨box,ty,sz,es⟩:=row
   simp only at hbox he
   subst hbox
   have h1: ∃e0,es= .gen [e0]:=by
     rcases hm.row r _ g2 with⟨_,hh,_⟩|⟨_,arr,_,_,hx⟩
     . cases hh
     . simp only[if_true]at hx;obtain⟨e0,h,_⟩:=hx;exact⟨e0,h⟩
   obtain⟨e0,rfl⟩:=h1
   cases he
   exact hcl q (Z1f.2 ⟨r,List.mem_of_getElem? g1,ty,sz,e,g3,hq⟩)
 . obtain⟨r,row,g1,g2,g3,_,g5,g6⟩:=inv i x hx
   obtain⟨s,row',k1,k2,k3,_,k5,k6⟩:=inv j y hy
   rw[g5,k5]at he
   have:r=s:=hm.inj r s _ _ g2 k2 (λe=>v1 (g6.2 e)) (λe=>v2 (k6.2 e)) he
   subst this
   exact(List.getElem?_inj (List.getElem?_eq_some_iff.1 g1).1 hnd).1 (g1.trans k1.symm)
 . rcases hb with hb|⟨_,r,row,hr,hV,hbx,hni,rfl⟩
   . refine⟨(hm.imm b hb).1,λi x hx v=> ?_⟩
     obtain⟨r,row,g1,g2,g3,_,g5,g6⟩:=inv i x hx
     rw[g5];exact(hm.imm b hb).2 r row g2 (λe=>v (g6.2 e))
   . refine⟨hm.lt hr hV,λi x hx v=> ?_⟩
     obtain⟨s,row',g1,g2,g3,_,g5,g6⟩:=inv i x hx
     rw[g5]
     intro e
     have:=hm.inj s r _ _ g2 hr (λe=>v (g6.2 e)) hV e
     subst this
     exact hni (List.mem_of_getElem? g1)
theorem Qq2(hm:Mem c w)(hA:Q7p c R)(hn:Z5k (λr=>r∈ids) (λr=>pos r ids 0) false c (c.pass w ids crows len)){ρ:Operand->Value}{ev:Operand->D}:
   ∀{bs:List Bool} {xs:List Operand} {ds':List D},Qog R (λr=>pos r ids 0) bs (xs.map ev)=some ds'->(Q5r bs (xs.map ev)≠[]->len=true)->(∀r∈Q5r bs (xs.map ev),r∉ids)->(∀r∈Qph bs (xs.map ev),r∈ids)->(∀x∈xs,Rep c w (ev x) (ρ x))->Q8a (c.pass w ids crows len) w ds' (xs.map ρ)
 |bs,[],ds',h,_,_,_,_=>by cases bs<;>(try(rename_i b bs;cases b))<;>(simp [Qog]at h;subst h;trivial)
 | true::bs,x::xs,ds',h,hl,hd,hi,hr=>by
   simp only[List.map_cons,Qog]at h
   simp only[List.map_cons,Q5r,Qph]at hl hd hi
   split at h
   . rename_i ys hv h2
     cases h
     have hx:VRep c w (ev x) (ρ x):=Rep.toV (λds e=>by rw[e]at hv;simp [D.isVal]at hv) (λe=>by rw[e]at hv;simp [D.isVal]at hv) (hr x (by simp))
     exact⟨Z15 hn (flat:=False) (.inl λb hb=> .inl hb) (λr e=>hi r (by simp [e])) (λe=>e.elim) hx,Qq2 hm hA hn h2 hl hd (λr e=>hi r (by simp [e])) λy hy=>hr y (by simp [hy])⟩
   . cases h
 | false::bs,x::xs,ds',h,hl,hd,hi,hr=>by
   simp only[List.map_cons,Qog]at h
   simp only[List.map_cons,Q5r,Qph]at hl hd hi
   split at h
   . rename_i y ys h1 h2
     cases h
     exact⟨Zm8 hm hA h1 (λe=>hl (by simp [e])) (λr e=>hd r (by simp [e])) (hr x (by simp)),Qq2 hm hA hn h2 (λe=>hl (by simp [e])) (λr e=>hd r (by simp [e])) hi λy hy=>hr y (by simp [hy])⟩
   . cases h
 | [],x::xs,ds',h,hl,hd,hi,hr=>by
   simp only[List.map_cons,Qog]at h
   simp only[List.map_cons,Q5r,Qph]at hl hd hi
   split at h
   . rename_i y ys h1 h2
     cases h
     refine⟨Zm8 hm hA h1 (λe=>hl (by simp [e])) (λr e=>hd r (by simp [e])) (hr x (by simp)),Qq2 hm hA hn h2 (λe=>hl (by simp [e])) (λr e=>hd r (by simp [e])) (λr e=> ?_) λy hy=>hr y (by simp [hy])⟩
     cases xs<;>simp [Qph]at e
   . cases h
end
theorem Qn9{f:Nat->Nat}: ∀{ids:List Nat} {rows:List Row} {R:Rows},ids.Nodup->ids.length<=rows.length->(∀r∈ids,r<R.length)->
    (Qbq f ids rows R).length=R.length/\(∀(i r:Nat),ids[i]? =some r-> ∃row,rows[i]? =some row/\(Qbq f ids rows R).getD r none=some (row.ren f true))/\ ∀r,r∉ids->(Qbq f ids rows R).getD r none=R.getD r none
  | [],rows,R,_,_,_=>by
    have:Qbq f [] rows R=R:=by cases rows<;>rfl
    rw[this]
    exact⟨rfl,λi r h=>by simp at h,λ_ _=>rfl⟩
  |r::ids,[],R,_,hl,_=>by simp at hl
  | r ::ids,row::rows,R,hnd,hl,hlt=>by
    obtain⟨hni,hnd'⟩:=List.nodup_cons.1 hnd
    obtain⟨g1,g2,g3⟩:=Qn9 (f:=f) (ids:=ids) (rows:=rows) (R:=R.set r (some (row.ren f true))) hnd' (by simpa using hl) (λq hq=>by simpa using hlt q (by simp [hq]))
    have hr:=hlt r (by simp)
    have hat:(R.set r (some (row.ren f true))).getD r none=some (row.ren f true):=by simp [List.getD,hr]
    have hne: ∀q,q≠r->(R.set r (some (row.ren f true))).getD q none=R.getD q none:=λq hq=>by simp [List.getD,List.getElem?_set_ne (Ne.symm hq)]
    simp only[Qbq]
    refine⟨by simpa using g1,λi q hq=> ?_,λq hq=> ?_⟩
    . cases i with
      | zero=>
        simp at hq;subst hq
        exact⟨row,rfl,by rw[g3 _ hni];exact hat⟩
      |succ i=>simpa using g2 i q (by simpa using hq)
    . have h1:q≠r:=λe=>hq (by simp [e])
      rw[g3 q (λe=>hq (by simp [e])),hne q h1]
def Ctx.behind(c:Ctx)(w:World)(c':Ctx)(ids:List Nat)(n0:Nat)(R2:Rows):Ctx:=
 { ρ:=λr=>if n0<=r/\r<R2.length then c'.ρ (ids.length+(r-n0)) else c.ρ r,
   R:=λr=>if r∈ids\/(n0<=r/\r<R2.length) then R2.getD r none else c.R r,
   V:=λr=>if n0<=r/\r<R2.length then c'.V (ids.length+(r-n0)) else c.V r,
   I:=λb=>c.I b\/(c'.I b/\w.heap.size<=b),base:=c.base,top:=c'.top,X:=c.X}
theorem Zjg{f:Nat->Nat}{rows:List Row}{i:Nat}:(Qhd f rows)[i]? =rows[i]?.map λrow=>some (row.ren f true):=by simp [Qhd]
theorem Z27{c c':Ctx}{w w':World}{R:Rows}{ids:List Nat}{crows rows':List Row}{len:Bool}(hm:Mem c w)(hb:c.base<=w.heap.size)(hRi: ∀r row,r∈ids->R.getD r none=some row->c.R r=some row)(hnew: ∀r,R.length<=r->r<R.length+(rows'.length-ids.length)->c.R r=none)
    (hnd:ids.Nodup) (hrows:Qng R (λr=>pos r ids 0) ids=some crows) (hle:ids.length<=rows'.length) (hx:NxtW (c.pass w ids crows len) w c' w') (hR': ∀i,c'.R i=rows'[i]?)
    (hI:len=true->FFRs rows') {R2:Rows} (hR2:R2=Qbq (bk ids R.length) ids rows' R++Qhd (bk ids R.length) (rows'.drop ids.length)):
    (Z5k (λ_=>True) (bk ids R.length) true c' (c.behind w c' ids R.length R2))/\((∀b,c'.I b->(c.behind w c' ids R.length R2).I b)\/(len=true/\ ∀b,c'.I b->c'.base<=b->(c.behind w c' ids R.length R2).I b))/\
    Mem (c.behind w c' ids R.length R2) w'/\Q3s c w (c.behind w c' ids R.length R2) w'/\Fr (λb=> ∃r x,c.R r=some x/\ ¬c.V r/\r∈ids/\c.ρ r=b) w w'/\
    (∀b,(c.behind w c' ids R.length R2).I b->c.I b\/w.heap.size<=b)/\
    (∀r,R.length<=r->r<R2.length-> ¬(c.behind w c' ids R.length R2).V r->w.heap.size<=(c.behind w c' ids R.length R2).ρ r):=by
  obtain⟨hcl,hcg⟩:=Qax hrows
  have hlt: ∀r∈ids,r<R.length:=λr hr=>by
    obtain⟨row,h1,_⟩:=hcg _ r (Qh3 hr)
    by_cases hl:r<R.length
    . exact hl
    . rw[List.getD,List.getElem?_eq_none (by omega)]at h1;cases h1
  obtain⟨k1,k2,k3⟩:=Qn9 (f:=bk ids R.length) hnd hle hlt
  have hlen2:R2.length=R.length+(rows'.length-ids.length):=by rw[hR2];simp [k1,Qhd]
  have hlo: ∀r,r<R.length->R2.getD r none=(Qbq (bk ids R.length) ids rows' R).getD r none:=λr hr=>by
    rw[hR2,List.getD,List.getD,List.getElem?_append_left (by omega)]
  have hhi: ∀i,ids.length<=i->i<rows'.length->R2.getD (R.length+(i-ids.length)) none=rows'[i]?.map λrow=>row.ren (bk ids R.length) true:=λi h1 h2=>by
    rw[hR2,List.getD,List.getElem?_append_right (by omega),Zjg,k1,show R.length+(i-ids.length)-R.length=i-ids.length by omega,List.getElem?_drop,show ids.length+(i-ids.length)=i by omega]
    rw[List.getElem?_eq_getElem h2];rfl
  have hbase:c'.base=w.heap.size:=hx.grows.base
  have old: ∀i r row',ids[i]? =some r->c'.R i=some row'-> ∃row,c.R r=some row/\row'.box=row.box/\row'.ty=row.ty/\row'.sz=row.sz/\row'.es.l.length=row.es.l.length/\c'.ρ i=c.ρ r/\(c'.V i↔c.V r)/\r<R.length/\R2.getD r none=some (row'.ren (bk ids R.length) true)/\bk ids R.length i=r/\
      (¬c.V r-> ∀arr,w.heap[c.ρ r]? =some (.cells arr row.ty (0,0))-> ∃arr',w'.heap[c.ρ r]? =some (.cells arr' row.ty (0,0))/\arr'.size=arr.size):=by
    intro i r row' hi hrow'
    obtain⟨row,h1,h2⟩:=hcg i r hi
    have hm':=List.mem_of_getElem? hi
    have h3:=hRi r row hm' h1
    obtain⟨row'',g1,g2,g3,g4,g5,g6,gV,g7⟩:=hx.grows.R i _ (show(c.pass w ids crows len).R i=some _ from h2)
    rw[hrow']at g1;cases g1
    obtain⟨s1,s2,s3,s4⟩:=Qjd (λr=>pos r ids 0) false row
    obtain⟨row3,q1,q2⟩:=k2 i r hi
    rw[hR',q1]at hrow';cases hrow'
    refine⟨row,h3,g2.trans s1,g3.trans s2,g4.trans s3,g5.trans s4,by simpa [Ctx.pass,hi] using g6,by simpa [Ctx.pass,hi] using gV,hlt r hm',by rw[hlo r (hlt r hm')];exact q2,by simp [bk,hi],λnv arr ha=> ?_⟩
    have:=g7 (by simpa [Ctx.pass,hi] using nv) arr (by simpa [Ctx.pass,hi,s2] using ha)
    simpa [Ctx.pass,hi,s2] using this
  have fresh: ∀i row',ids.length<=i->c'.R i=some row'->i<rows'.length/\R2.getD (R.length+(i-ids.length)) none=some (row'.ren (bk ids R.length) true)/\bk ids R.length i=R.length+(i-ids.length)/\(¬c'.V i->w.heap.size<=c'.ρ i):=by
    intro i row' hi hrow'
    have h1:rows'[i]? =some row':=by rw[<-hR'];exact hrow'
    have h2:=(List.getElem?_eq_some_iff.1 h1).1
    refine⟨h2,by rw[hhi i hi h2,h1];rfl,by simp [bk,List.getElem?_eq_none hi],λnv=> ?_⟩
    rcases hx.rho i row' hrow' nv with⟨⟨x,hx1⟩,_⟩|h3
    . have:crows[i]? =some x:=hx1
      rw[List.getElem?_eq_none (by omega)]at this;cases this
    . exact h3
  have hren:Z5k (λ_=>True) (bk ids R.length) true c' (c.behind w c' ids R.length R2):=by
    refine⟨λi row' _ hrow'=> ?_,λ_=>by rw[hbase];exact hb,Nat.le_refl _⟩
    obtain⟨s1,s2,s3,s4⟩:=Qjd (bk ids R.length) true row'
    by_cases hi:i<ids.length
    . have hi':ids[i]? =some ids[i]:=List.getElem?_eq_getElem hi
      obtain⟨row,g1,g2,g3,g4,g5,g6,g7,g8,g9,g10,_⟩:=old i _ row' hi' hrow'
      rw[g10]
      exact⟨_,by simp only[Ctx.behind];rw[if_pos (.inl (List.mem_of_getElem? hi'))];exact g9,s1,s2,s3,s4,by simp only[Ctx.behind];rw[if_neg (by omega),g6],by simp only[Ctx.behind];rw[if_neg (by omega)];exact g7.symm⟩
    . obtain⟨h1,h2,h3,h4⟩:=fresh i row' (by omega) hrow'
      rw[h3]
      have hc:R.length<=R.length+(i-ids.length)/\R.length+(i-ids.length)<R2.length:=by omega
      have he:ids.length+(R.length+(i-ids.length)-R.length)=i:=by omega
      exact⟨_,by simp only[Ctx.behind];rw[if_pos (.inr hc)];exact h2,s1,s2,s3,s4,by simp only[Ctx.behind];rw[if_pos hc,he],by simp only[Ctx.behind];rw[if_pos hc,he]⟩
  have hImono:(∀b,c'.I b->(c.behind w c' ids R.length R2).I b)\/(len=true/\ ∀b,c'.I b->c'.base<=b->(c.behind w c' ids R.length R2).I b):=by
    cases hl:len with
    | false=>
      refine .inl λb hbI=> ?_
      rcases hx.imm b hbI with h1|h1
      . rcases h1 with h1|⟨h1,_⟩
        . exact .inl h1
        . rw[hl]at h1;cases h1
      . exact .inr ⟨hbI,h1⟩
    |true=>exact .inr ⟨rfl,λb hbI hbb=> .inr ⟨hbI,by omega⟩⟩
  have hfr:Fr (λb=> ∃r x,c.R r=some x/\ ¬c.V r/\r∈ids/\c.ρ r=b) w w':=hx.fr.mono λb _ ⟨i,x,h1,h2,h3⟩=>by
    have h1':crows[i]? =some x:=h1
    have hi:i<ids.length:=by have:=(List.getElem?_eq_some_iff.1 h1').1;omega
    have hi':ids[i]? =some ids[i]:=List.getElem?_eq_getElem hi
    obtain⟨row,g1,g2⟩:=hcg i _ hi'
    exact⟨_,row,hRi _ row (List.mem_of_getElem? hi') g1,by simpa [Ctx.pass,hi'] using h2,List.mem_of_getElem? hi',by simpa [Ctx.pass,hi'] using h3⟩
  have inv: ∀r x,(c.behind w c' ids R.length R2).R r=some x->(∃i row',c'.R i=some row'/\x=row'.ren (bk ids R.length) true/\(c.behind w c' ids R.length R2).ρ r=c'.ρ i/\((c.behind w c' ids R.length R2).V r↔c'.V i)/\(r∈ids/\ids[i]? =some r/\(c.behind w c' ids R.length R2).ρ r=c.ρ r/\((c.behind w c' ids R.length R2).V r↔c.V r)\/R.length<=r/\ids.length<=i/\r=R.length+(i-ids.length)))\/
      (c.R r=some x/\r∉ids/\(c.behind w c' ids R.length R2).ρ r=c.ρ r/\((c.behind w c' ids R.length R2).V r↔c.V r)/\ ¬(R.length<=r/\r<R2.length)):=by
    intro r x hx'
    by_cases hm':r∈ids
    . left
      have hp:=Qh3 hm'
      obtain⟨row3,q1,q2⟩:=k2 _ r hp
      have hc':c'.R (pos r ids 0)=some row3:=by rw[hR'];exact q1
      obtain⟨row,g1,g2,g3,g4,g5,g6,g7,g8,g9,g10,_⟩:=old _ r row3 hp hc'
      simp only[Ctx.behind]at hx'
      rw[if_pos (.inl hm'),g9]at hx'
      cases hx'
      have e1:(c.behind w c' ids R.length R2).ρ r=c.ρ r:=by simp only[Ctx.behind];rw[if_neg (by omega)]
      have e2:(c.behind w c' ids R.length R2).V r↔c.V r:=by simp only[Ctx.behind];rw[if_neg (by omega)]
      exact⟨_,row3,hc',rfl,by rw[e1,g6],by rw[e2,g7], .inl ⟨hm',hp,e1,e2⟩⟩
    . by_cases hc:R.length<=r/\r<R2.length
      . left
        have hi:ids.length+(r-R.length)<rows'.length:=by omega
        have hc':c'.R (ids.length+(r-R.length))=some rows'[ids.length+(r-R.length)]:=by rw[hR'];exact List.getElem?_eq_getElem hi
        obtain⟨h1,h2,h3,h4⟩:=fresh _ _ (by omega) hc'
        simp only[Ctx.behind]at hx'
        rw[if_pos (.inr hc)]at hx'
        rw[show R.length+(ids.length+(r-R.length)-ids.length)=r by omega]at h2
        rw[h2]at hx'
        cases hx'
        exact⟨_,_,hc',rfl,by simp only[Ctx.behind];rw[if_pos hc],by simp only[Ctx.behind];rw[if_pos hc], .inr ⟨hc.1,by omega,by omega⟩⟩
      . right
        simp only[Ctx.behind]at hx'
        rw[if_neg (by rintro(h|h)<;>contradiction)]at hx'
        exact⟨hx',hm',by simp only[Ctx.behind];rw[if_neg hc],by simp only[Ctx.behind];rw[if_neg hc],hc⟩
  have hgrow:Q3s c w (c.behind w c' ids R.length R2) w':=by
    refine⟨rfl,hx.grows.top,λb hbI=>⟨.inl hbI,?_⟩,λr row hr=> ?_⟩
    . exact(hx.grows.I b (.inl hbI)).2
    . by_cases hm':r∈ids
      . have hp:=Qh3 hm'
        obtain⟨row3,q1,q2⟩:=k2 _ r hp
        have hc':c'.R (pos r ids 0)=some row3:=by rw[hR'];exact q1
        obtain⟨row0,g1,g2,g3,g4,g5,g6,g7,g8,g9,g10,g11⟩:=old _ r row3 hp hc'
        rw[hr]at g1;cases g1
        obtain⟨s1,s2,s3,s4⟩:=Qjd (bk ids R.length) true row3
        exact⟨_,by simp only[Ctx.behind];rw[if_pos (.inl hm')];exact g9,s1.trans g2,s2.trans g3,s3.trans g4,s4.trans g5,by simp only[Ctx.behind];rw[if_neg (by omega)],by simp only[Ctx.behind];rw[if_neg (by omega)],g11⟩
      . have hc: ¬(R.length<=r/\r<R2.length):=λhc=>by rw[hnew r hc.1 (by omega)]at hr;cases hr
        refine⟨row,by simp only[Ctx.behind];rw[if_neg (by rintro(h|h)<;>contradiction)];exact hr,rfl,rfl,rfl,rfl,by simp only[Ctx.behind];rw[if_neg hc],by simp only[Ctx.behind];rw[if_neg hc],λnv arr ha=>⟨arr,?_,rfl⟩⟩
        rw[hfr.heap _ (hm.lt hr nv) fun⟨s,x,h1,h2,h3,h4⟩=>hm' (by rw[<-hm.inj s r x row h1 hr h2 nv h4];exact h3)]
        exact ha
  refine⟨hren,hImono,⟨λr x hx'=> ?_,λr s x y hr hs v1 v2 he=> ?_,λb hbI=> ?_,hx.mem.top⟩,hgrow,hfr,λb hbI=> ?_,λr h1 h2 h3=> ?_⟩
  . rcases inv r x hx' with⟨i,row',h1,rfl,h3,h4,_⟩|⟨h1,h2,h3,h4,h5⟩
    . refine Zil hren hImono h3 h4 (λ_ _ _ _ _=>trivial) (λhf=> ?_) (hx.mem.row i row' h1)
      exact Zlj (hI hf) (by rw[<-hR'];exact h1)
    . exact Q3 hgrow h3 h4 (λnv=>hfr.heap _ (hm.lt h1 nv) fun⟨s,x',g1,g2,g3,g4⟩=>h2 (by rw[<-hm.inj s r x' x g1 h1 g2 nv g4];exact g3)) (hm.row r x h1)
  . have oldlt: ∀i row',c'.R i=some row'-> ¬c'.V i->(∃q,q∈ids/\ids[i]? =some q/\(∃y,c.R q=some y)/\ ¬c.V q/\c'.ρ i=c.ρ q)\/w.heap.size<=c'.ρ i:=λi row' h1 nv=>by
      by_cases hi:i<ids.length
      . have hi':ids[i]? =some ids[i]:=List.getElem?_eq_getElem hi
        obtain⟨row,g1,g2,g3,g4,g5,g6,g7,_⟩:=old i _ row' hi' h1
        exact .inl ⟨_,List.mem_of_getElem? hi',hi',⟨row,g1⟩,λe=>nv (g7.2 e),g6⟩
      . exact .inr ((fresh i row' (by omega) h1).2.2.2 nv)
    rcases inv r x hr with⟨i,x',h1,_,h3,h4,h5⟩|⟨h1,h2,h3,h4,h5⟩<;>rcases inv s y hs with⟨j,y',g1,_,g3,g4,g5⟩|⟨g1,g2,g3,g4,g5⟩
    . have:i=j:=hx.mem.inj i j x' y' h1 g1 (λe=>v1 (h4.2 e)) (λe=>v2 (g4.2 e)) (by rw[<-h3,<-g3];exact he)
      subst this
      rcases h5 with⟨_,q1,_⟩|⟨_,q1,q2⟩<;>rcases g5 with⟨_,p1,_⟩|⟨_,p1,p2⟩
      . rw[q1]at p1;exact Option.some.inj p1
      . have:=(List.getElem?_eq_some_iff.1 q1).1;omega
      . have:=(List.getElem?_eq_some_iff.1 p1).1;omega
      . omega
    . exfalso
      have nv:=λe=>v1 (h4.2 e)
      have ns:=λe=>v2 (g4.2 e)
      rw[h3,g3]at he
      rcases oldlt i x' h1 nv with⟨q,q1,q2,⟨z,q3⟩,q4,q5⟩|q
      . exact g2 (by rw[<-hm.inj q s z y q3 g1 q4 ns (by rw[<-q5];exact he)];exact q1)
      . have:=hm.lt g1 ns;omega
    . exfalso
      have nv:=λe=>v2 (g4.2 e)
      have ns:=λe=>v1 (h4.2 e)
      rw[h3,g3]at he
      rcases oldlt j y' g1 nv with⟨q,q1,q2,⟨z,q3⟩,q4,q5⟩|q
      . exact h2 (by rw[<-hm.inj q r z x q3 h1 q4 ns (by rw[<-q5];exact he.symm)];exact q1)
      . have:=hm.lt h1 ns;omega
    . exact hm.inj r s x y h1 g1 (λe=>v1 (h4.2 e)) (λe=>v2 (g4.2 e)) (by rw[<-h3,<-g3];exact he)
  . rcases hbI with hbI|⟨hbI,hge⟩
    . refine⟨Nat.lt_of_lt_of_le (hm.imm b hbI).1 hfr.size,λr x hr v=> ?_⟩
      rcases inv r x hr with⟨i,x',h1,_,h3,h4,h5⟩|⟨h1,h2,h3,h4,h5⟩
      . have:=(hx.mem.imm b ((hx.grows.I b (.inl hbI)).1)).2 i x' h1 (λe=>v (h4.2 e))
        rw[h3];exact this
      . rw[h3];exact(hm.imm b hbI).2 r x h1 (λe=>v (h4.2 e))
    . refine⟨(hx.mem.imm b hbI).1,λr x hr v=> ?_⟩
      rcases inv r x hr with⟨i,x',h1,_,h3,h4,h5⟩|⟨h1,h2,h3,h4,h5⟩
      . rw[h3];exact(hx.mem.imm b hbI).2 i x' h1 (λe=>v (h4.2 e))
      . have:=hm.lt h1 (λe=>v (h4.2 e))
        rw[h3];omega
  . rcases hbI with h|⟨_,h⟩
    . exact .inl h
    . exact .inr h
  . have hi:ids.length+(r-R.length)<rows'.length:=by omega
    have hc':c'.R (ids.length+(r-R.length))=some rows'[ids.length+(r-R.length)]:=by rw[hR'];exact List.getElem?_eq_getElem hi
    obtain⟨_,_,_,h4⟩:=fresh _ _ (by omega) hc'
    simp only[Ctx.behind,if_pos (show R.length<=r/\r<R2.length from⟨h1,h2⟩)]at h3⊢
    exact h4 h3
theorem Qwq(args:List D):Qph [] args=[]:=by cases args<;>rfl
theorem Zcs(R:Rows)(args:List D):Qe7 R [] args=[]:=by
 unfold Qe7;rw[Qwq];rfl
theorem Zcg{P:Program}{x:Q0d}(hok:Q05 P x){f:FuncId}(hf:x.f=f)(hy:x.f<YB){dst:Option Tmp}{args:Array Operand}{tys:Array TypeId}{type:TypeId}{pos:String}{after:Array Edge}{guard:Option (Nat×Bool)}{a:Act}{w:World}{K:Act->World->Prop}{Q:Exit->Act->World->Prop}
   (h:Calls P x.f (args.toList.map a.eval).toArray w λe w'=> ∃v,e= .returned v/\K (a.put dst v) w'):(⟨dst, .call ⟨.value (.func f),args,tys⟩,type,pos,after,guard⟩:Oper).wpR P a w K Q:=by
 have hrun:(execOp a.eval (⟨dst, .call ⟨.value (.func f),args,tys⟩,type,pos,after,guard⟩:Oper)).run P w= .ok (.enter f (args.toList.map a.eval).toArray) w:=by
   simp only[execOp,resolve,Act.eval,Deferred.ofValue,Sem.run_bind,Sem.run_pure,Result.andThen_ok,invoke,Array.empty_append,Array.append_empty]
   rw[<-hf,hok.enters hy,<-List.map_toArray,Array.toArray_toList]
 unfold Oper.wpR
 rw[hrun]
 show Calls P f _ w _
 rw[<-hf]
 exact h
theorem zF {P:Program}{G:List Q0d}(hG:Q7j P G){dst:Option Tmp}{f:FuncId}{args:Array Operand}{tys:Array TypeId}{type:TypeId}{pos':String}{after:Array Edge}{guard:Option (Nat×Bool)}{ev:Operand->D}{R:Rows}{K:D->Rows->Prop}
    (hgo:Qc9 G f=none) (h:callG G f (args.toList.map ev) R K): ∃val R' x,K val R'/\Ql4 G f=some x/\OpW P ⟨dst, .call ⟨.value (.func f),args,tys⟩,type,pos',after,guard⟩ ev R val R'/\(x.refs=[]->OpN P ⟨dst, .call ⟨.value (.func f),args,tys⟩,type,pos',after,guard⟩ ev R val R'):=by
  unfold callG at h
  split at h
  . rename_i x hx
    have hgn:x.gone=none:=by simpa [Qc9,hx] using hgo
    obtain⟨hok,hf⟩:=Qkr hG hx
    split at h
    . rename_i az crows has hcrows
      simp only[Q08,Bool.or_eq_true,aE]at h
      obtain⟨⟨⟨hfl,h1,h2⟩,h3,h4⟩,h⟩:=h
      generalize hids:Qe7 R x.refs (args.toList.map ev)=ids at*
      have hsub:=Qqa.1 h1
      have hcl:=Qqa.1 h2
      have hnd:=Qi6.1 h3
      have hdis:=Z0l.1 h4
      have main : ∀res rows',ids.length<=rows'.length->K (res.renV (bk ids R.length) true) (Qbq (bk ids R.length) ids rows' R++Qhd (bk ids R.length) (rows'.drop ids.length))->Q4l P x.f az crows res rows'->(x.flat=true->FF res/\FFRs rows')->
          ∃val R' y,K val R'/\Ql4 G f=some y/\OpW P ⟨dst, .call ⟨.value (.func f),args,tys⟩,type,pos',after,guard⟩ ev R val R'/\(y.refs=[]->OpN P ⟨dst, .call ⟨.value (.func f),args,tys⟩,type,pos',after,guard⟩ ev R val R'):=by
        intro res rows' hle hK hA hff
        let len:=match Q5r x.refs (args.toList.map ev) with|[]=>false|_=>true
        have hlen:Q5r x.refs (args.toList.map ev)≠[]->len=true:=by
          intro hne
          show(match Q5r x.refs (args.toList.map ev) with|[]=>false|_=>true)=true
          split
          . contradiction
          . rfl
        have hflat:len=true->x.flat=true:=by
          intro hl
          rcases hfl with h|h
          . exact h.1
          . exfalso
            have hl:(match Q5r x.refs (args.toList.map ev) with|[]=>false|_=>true)=true:=hl
            split at h
            . rename_i e;rw[e]at hl;cases hl
            . cases h
        have core: ∀(c:Ctx) (w:World) (a:Act),Mem c w->c.base<=w.heap.size->Q7p c R->(∀r row,r∈ids->R.getD r none=some row->c.R r=some row)->(∀r,R.length<=r->r<R.length+(rows'.length-ids.length)->c.R r=none)->(∀y∈args.toList,Rep c w (ev y) (a.eval y))->
            ∀(K':Act->World->Prop) (Q:Exit->Act->World->Prop),(∀v w' c',NxtW (c.pass w ids crows len) w c' w'->(∀i,c'.R i=rows'[i]?)->Rep (c.behind w c' ids R.length (Qbq (bk ids R.length) ids rows' R++Qhd (bk ids R.length) (rows'.drop ids.length))) w' (res.renV (bk ids R.length) true) v->K' (a.put dst v) w')->
            (⟨dst, .call ⟨.value (.func f),args,tys⟩,type,pos',after,guard⟩:Oper).wpR P a w K' Q:=by
          intro c w a hm hb hAg hRi hnew hev K' Q hK'
          have hn:=Qq8 (len:=len) (w:=w) hRi hcrows
          have hargs:=Qq2 (len:=len) (ρ:=a.eval) hm hAg hn has hlen hdis hsub hev
          have hcall:=hA (c.pass w ids crows len) w _ (Zch hm hRi hnd hcl hcrows) rfl (λr=>rfl) hargs
          refine Zcg hok hf (hok.real hgn) (hcall.mono λe w' hpost=> ?_)
          obtain⟨v,c',he,hnx,hR',hres⟩:=hpost
          obtain⟨g1,g2,_⟩:=Z27 hm hb hRi hnew hnd hcrows hle hnx hR' (λe=>(hff (hflat e)).2) rfl
          exact⟨v,he,hK' v w' c' hnx hR' (Zae g1 g2 (λ_=>trivial) (λe=>(hff (hflat e)).1) hres)⟩
        have hmem: ∀(c:Ctx) (w:World) (a:Act),(∀y∈(⟨dst, .call ⟨.value (.func f),args,tys⟩,type,pos',after,guard⟩:Oper).op.operands,Rep c w (ev y) (a.eval y))-> ∀y∈args.toList,Rep c w (ev y) (a.eval y):=λc w a hev y hy=>hev y (by simp [Op.operands,Call.operands];exact .inr (by simpa using hy))
        refine⟨_,_,x,hK,hx,λc w a hm hb hR hev K' Q hK'=> ?_,λhrefs=> ?_⟩
        . have hAg:Q7p c R:=λr row row' g1 g2=>by rw[hR,g2]at g1;exact(Option.some.inj g1).symm
          have hRi: ∀r row,r∈ids->R.getD r none=some row->c.R r=some row:=λr row _ e=>by rw[hR];exact e
          have hnew: ∀r,R.length<=r->r<R.length+(rows'.length-ids.length)->c.R r=none:=λr e _=>by rw[hR,List.getD,List.getElem?_eq_none e];rfl
          refine core c w a hm hb hAg hRi hnew (hmem c w a hev) K' Q λv w' c' hnx hR' hres=> ?_
          obtain⟨g1,g2,g3,g4,g5,g6,g7⟩:=Z27 hm hb hRi hnew hnd hcrows hle hnx hR' (λe=>(hff (hflat e)).2) rfl
          have hlen2:(Qbq (bk ids R.length) ids rows' R).length=R.length:=(Qn9 hnd hle (λr hr=>by
            obtain⟨row,q1,_⟩:=(Qax hcrows).2 _ r (Qh3 hr)
            by_cases hl:r<R.length
            . exact hl
            . rw[List.getD,List.getElem?_eq_none (by omega)]at q1;cases q1)).1
          have hget:=Qn9 (f:=bk ids R.length) hnd hle (λr hr=>by
            obtain⟨row,q1,_⟩:=(Qax hcrows).2 _ r (Qh3 hr)
            by_cases hl:r<R.length
            . exact hl
            . rw[List.getD,List.getElem?_eq_none (by omega)]at q1;cases q1)
          refine hK' v w' _ ⟨g3,g4,g5.mono λb _ ⟨r,y,k1,k2,_,k4⟩=>⟨r,y,k1,k2,k4⟩,g6,λr row' hr hv=> ?_⟩ (λr=> ?_) hres
          . by_cases hc:R.length<=r/\r<(Qbq (bk ids R.length) ids rows' R++Qhd (bk ids R.length) (rows'.drop ids.length)).length
            . exact .inr (g7 r hc.1 hc.2 hv)
            . left
              simp only[Ctx.behind,if_neg hc]at hv⊢
              refine⟨?_,hv,trivial⟩
              simp only[Ctx.behind]at hr
              split at hr
              . rename_i hor
                rcases hor with hor|hor
                . obtain⟨row,q1,_⟩:=(Qax hcrows).2 _ r (Qh3 hor)
                  exact⟨row,hRi r row hor q1⟩
                . contradiction
              . exact⟨_,hr⟩
          . simp only[Ctx.behind]
            split
            . rfl
            . rename_i hor
              have h1:r∉ids:=λe=>hor (.inl e)
              by_cases hlt:r<R.length
              . rw[List.getD,List.getElem?_append_left (by omega),<-List.getD,hget.2.2 r h1,hR]
              . rw[hR,List.getD,List.getElem?_eq_none (by omega),List.getD,List.getElem?_eq_none (by
                  by_cases h2:r<(Qbq (bk ids R.length) ids rows' R++Qhd (bk ids R.length) (rows'.drop ids.length)).length
                  . exact(hor (.inr ⟨by omega,h2⟩)).elim
                  . omega)]
        . have hids':ids=[]:=by rw[<-hids,hrefs];exact Zcs R _
          subst hids'
          have hset:Qbq (bk [] R.length) [] rows' R=R:=by cases rows'<;>rfl
          rw[hset]
          simp only[List.length_nil,List.drop_zero]at*
          refine⟨⟨_,rfl⟩,λc w a hm hb hAg hnew hev K' Q hK'=> ?_⟩
          have hRi: ∀r row,r∈([]:List Nat)->R.getD r none=some row->c.R r=some row:=λr row e=>by cases e
          have hnew': ∀r,R.length<=r->r<R.length+(rows'.length-0)->c.R r=none:=λr e1 e2=>hnew r e1 (by simp [Qhd];omega)
          refine core c w a hm hb hAg hRi hnew' (hmem c w a hev) K' Q λv w' c' hnx hR' hres=> ?_
          obtain⟨g1,g2,g3,g4,g5,g6,g7⟩:=Z27 hm hb hRi hnew' hnd hcrows hle hnx hR' (λe=>(hff (hflat e)).2) rfl
          rw[hset]at g3 g4 g6 g7 hres
          simp only[List.length_nil,List.drop_zero]at g3 g4 g6 g7 hres
          refine hK' v w' _ ⟨g3,g4,g5.mono (λb _ ⟨r,y,k1,k2,k3,k4⟩=>(by cases k3)),g6,λr=> ?_,λr hr=> ?_,λr k1 k2=>g7 r k1 k2⟩ hres
          . simp [Ctx.behind]
          . simp only[Ctx.behind]
            rw[if_neg (by omega),if_neg (by omega)]
            exact⟨rfl,Iff.rfl⟩
      split at h
      . rename_i res rows' hm
        simp only[Z64,Q08,D.force_iff,Q1s]at h
        obtain⟨h5,h6⟩:=hok.ok hgn _ _ _ _ hm
        exact main res rows' (lE h.1) h.2 h5 h6
      . rename_i p res rows' hm
        simp only[Z64,Q08,D.force_iff,Q1s]at h
        obtain⟨h5,h6⟩:=hok.when hgn _ _ _ _ _ hm h.1
        exact main res rows' (lE h.2.1) h.2.2 h5 h6
      . rename_i α v res rows' hm
        have h:=h v rfl
        simp only[Z64,Q08,D.force_iff,Q1s]at h
        obtain⟨h5,h6⟩:=hok.abs hgn _ _ _ _ _ _ hm
        exact main (res v) (rows' v) (lE h.1) h.2 h5 h6
      . rename_i p α v res rows' hm
        obtain⟨hp,h⟩:=h
        have h:=h v rfl
        simp only[Z64,Q08,D.force_iff,Q1s]at h
        obtain⟨h5,h6⟩:=hok.absW hgn _ _ _ _ _ _ _ hm hp
        exact main (res v) (rows' v) (lE h.1) h.2 h5 h6
      . exact h.elim
    . exact h.elim
  . exact h.elim
theorem Z8u{f:Nat->Nat}: ∀{ds:List D},Zl0 ds=true->D.rens f true ds=ds
 |[],_=>rfl
 | d ::l,h=>by
   simp only[Zl0]at h
   split at h
   . rename_i hd
     simp only[D.rens,Z8u h]
     cases d<;>first|(simp [Ze0]at hd;done)|simp [D.ren1]
   . cases h
theorem Ze4{f:Nat->Nat}{d:D}(h:noRef d=true):d.ren f true=d:=by
 cases d with
 |agg cs=>show D.agg (D.rens f true cs)=_;rw[Z8u h]
 |_=>first|(simp [noRef,Ze0]at h;done)|simp [D.ren,D.ren1]
theorem Z7f{f:Nat->Nat}: ∀{ds:List D},Zl3 ds=true->D.renT f true ds=ds
 |[],_=>rfl
 | d ::l,h=>by
   simp only[Zl3]at h
   split at h
   . rename_i hd
     simp only[D.renT,Z7f h,Ze4 hd]
   . cases h
theorem Zom{f:Nat->Nat}{d:D}(h:noRefV d=true):d.renV f true=d:=by
 cases d with
 |tup ds=>show D.tup (D.renT f true ds)=_;rw[Z7f h]
 |agg cs=>exact Ze4 (d:= .agg cs) h
 |_=>first|(simp [noRefV,noRef,Ze0]at h;done)|simp [D.renV,D.ren,D.ren1]
theorem Z29{R:Rows}(f g:Nat->Nat): ∀{ds:List D},Qog R f [] ds=Qog R g [] ds
 |[]=>rfl
 |d::l=>by simp only[Qog,Z29 f g (ds:=l)]
theorem yF{G:List Q0d}{f:FuncId}{args:List D}{R:Rows}{K:D->Rows->Prop}(h:Z94 G f args R K):callG G f args R K:=by
  unfold Z94 at h
  split at h
  . rename_i x hx
    split at h
    . rename_i hrefs
      split at h
      . rename_i az has
        simp only[Q08]at h
        have hv: ∀{res:D} {rows':List Row},Z92 R res rows' K->Z64 R [] res rows' K:=by
          intro res rows' h
          have hset:Qbq (bk [] R.length) [] rows' R=R:=by cases rows'<;>rfl
          simp only[Z64,Q08,List.length_nil,List.drop_zero,hset]
          refine⟨by simp,?_⟩
          unfold Z92 at h
          split at h
          . simp only[Q08,D.force_iff]at h
            rw[Zom h.1]
            simp only[D.force_iff,Q1s,Qhd,List.map_nil,List.append_nil]
            exact h.2
          . exact h
        unfold callG
        simp only[hx,hrefs,Zcs]
        rw[Z29 _ (λr=>r),has]
        simp only[Qng,Q08,Qwq]
        refine⟨?_,?_⟩
        . have: ∀l:List Nat,disB l []=true:=λl=>by
            rw[Z0l];intro r _ hr;cases hr
          simp only[subB,Qk,Qrb,this,Bool.and_true]
          have h1:=h.1
          revert h1
          cases Q5r [] args<;>simp [isNilN]
        . revert h
          cases x.m az [] with
          |no=>exact λh=>h.2
          |ok res rows'=>exact λh=>hv h.2
          |«when»p res rows'=>exact λh=>⟨h.2.1,hv h.2.2⟩
          |abs α v res rows'=>exact λh X hX=>hv (h.2 X hX)
          |absW p α v res rows'=>exact λh=>⟨h.2.1,λX hX=>hv (h.2.2 X hX)⟩
      . exact h.elim
    . exact h
  . exact h.elim
theorem Z3f{P:Program}{G:List Q0d}(hG:Q7j P G){dst:Option Tmp}{f:FuncId}{args:Array Operand}{tys:Array TypeId}{type:TypeId}{pos':String}{after:Array Edge}{guard:Option (Nat×Bool)}{ev:Operand->D}{R:Rows}{K:D->Rows->Prop}
   (hgo:Qc9 G f=none) (h:Z94 G f (args.toList.map ev) R K): ∃val R' x,K val R'/\Ql4 G f=some x/\OpW P ⟨dst, .call ⟨.value (.func f),args,tys⟩,type,pos',after,guard⟩ ev R val R'/\(x.refs=[]->OpN P ⟨dst, .call ⟨.value (.func f),args,tys⟩,type,pos',after,guard⟩ ev R val R'):=
 zF hG hgo (yF h)
