import Derived.Test.YtmalmklaonainaaGreatReplayRefusesPure
set_option linter.all false
namespace Go.GD
open Go
theorem Q3v.set{c:Ctx}{w:World}: ∀{ds:List D} {vs:List Value} {d:D} {v:Value} (i:Nat),Q3v c w ds vs->CRep c w d v->Q3v c w (ds.set i d) (vs.set i v)
 |[],[],_,_,_,h,_=>by simpa using h
 |[],_::_,_,_,_,h,_=>h.elim
 |_::_,[],_,_,_,h,_=>h.elim
 |a::ds,b::vs,d,v,0,h,hd=>⟨hd,h.2⟩
 |a::ds,b::vs,d,v,i+1,h,hd=>⟨h.1,Q3v.set i h.2 hd⟩
theorem Q3v.length{c:Ctx}{w:World}{ds:List D}{vs:List Value}(h:Q3v c w ds vs):ds.length=vs.length:=(Qc0.1 h).1
theorem Rep.cells{c:Ctx}{w:World}{d:D}{v:Value}(hd:d.isVal=true)(h:Rep c w d v):Q3v c w d.cells v.cells.toList:=by
 have one: ∀d':D,CRep c w d' v->Q3v c w [d'] v.cells.toList:=λd' h'=>by
   have h1:=h'.one
   have:v.cells= #[v]:=by cases v<;>first|rfl|(simp [Value.oneCell']at h1)
   rw[this]
   exact⟨h',trivial⟩
 cases d with
 | agg cs=>
   obtain⟨vs,hv,hr⟩:=h
   subst hv
   simpa [Value.cells,D.cells] using hr
 |tup ds=>simp [D.isVal]at hd
 |dead=>simp [D.isVal]at hd
 |_=>exact one _ h
theorem Qcf: ∀{xs:List D} {ds:List D} {off:Nat},(Q2i ds off xs).length=ds.length
 |[],_,_=>rfl
 |x::xs,ds,off=>by unfold Q2i;rw[Qcf];simp
def Q44:List Value->Nat->List Value->List Value
 |e,_,[]=>e
 |e,off,v::vs=>Q44 (e.set off v) (off+1) vs
theorem Qyq{c:Ctx}{w:World}: ∀{xs:List D} {us:List Value} {ds:List D} {vs:List Value} {off:Nat},Q3v c w ds vs->Q3v c w xs us->Q3v c w (Q2i ds off xs) (Q44 vs off us)
 |[],[],_,_,_,h,_=>h
 |[],_::_,_,_,_,_,h=>h.elim
 |_::_,[],_,_,_,_,h=>h.elim
 |x::xs,u::us,ds,vs,off,h,hx=>by unfold Q2i Q44;exact Qyq (h.set off hx.1) hx.2
theorem Qr6: ∀(us:List Value) (k off:Nat) (cells:Array Value),
   ((us.zipIdx k).foldl (λcs (x:Value×Nat)=>cs.setIfInBounds (off+x.2) x.1) cells).toList=Q44 cells.toList (off+k) us
 |[],_,_,_=>by simp [Q44]
 | u::us,k,off,cells=>by
   simp only[List.zipIdx_cons,List.foldl_cons,Q44]
   rw[Qr6 us (k+1) off]
   simp [Array.toList_setIfInBounds,Nat.add_assoc]
theorem Zfc(v:Value)(off:Nat)(cells:Array Value):
   (v.cells.zipIdx.foldl (λcs (x:Value×Nat)=>cs.setIfInBounds (off+x.2) x.1) cells).toList=Q44 cells.toList off v.cells.toList:=by
 rw[<-Array.foldl_toList,Array.toList_zipIdx]
 exact Qr6 v.cells.toList 0 off cells
theorem Z3o{place:Nat->Option (Nat×Nat)}{ev:Operand->D}: ∀{parts:List (Nat×Operand)} {ds:List D} {K:List D->Prop},Qsr place ev parts ds K->
    ∃ ds',K ds'/\ ∀c w (ρ:Operand->Value) (cells:Array Value),Q3v c w ds cells.toList->(∀p∈parts,Rep c w (ev p.2) (ρ p.2))->
      ∃cells',Instr.fill place cells (parts.map λp=>(p.1,ρ p.2))=some cells'/\Q3v c w ds' cells'.toList
  |[],ds,K,h=>⟨ds,D.forceL_iff.1 h,λc w ρ cells hr _=>⟨cells,rfl,hr⟩⟩
  | (i, x)::ps,ds,K,h=>by
    unfold Qsr at h
    split at h
    . rename_i off n hp
      simp only[Q08,aE]at h
      obtain⟨⟨⟨hv,hn⟩,hle⟩,h⟩:=h
      have hn:=bE hn
      have hle:=lE hle
      obtain⟨ds',hK,hr⟩:=Z3o h
      refine⟨ds',hK,λc w ρ cells hc hps=> ?_⟩
      have hx:=Rep.cells hv (hps (i,x) (by simp))
      have hlen:(ρ x).cells.size=n:=by rw[<-hn,hx.length];simp
      have hsz:cells.size=ds.length:=by rw[hc.length];simp
      have hnew:Q3v c w (Q2i ds off (ev x).cells) ((ρ x).cells.zipIdx.foldl (λcs (x:Value×Nat)=>cs.setIfInBounds (off+x.2) x.1) cells).toList:=by
        rw[Zfc];exact Qyq hc hx
      obtain⟨cells',h1,h2⟩:=hr c w ρ _ hnew (λp hp=>hps p (by simp [hp]))
      refine⟨cells',?_,h2⟩
      simp only[List.map_cons,Instr.fill,hp]
      rw[if_neg (by simp;omega)]
      exact h1
    . exact h.elim
theorem Z8a{v:Value}{d:D}(h:Zeg v=some d)(c:Ctx)(w:World):CRep c w d v:=by
 cases v<;>simp only[Zeg]at h<;>first|(cases h;done)|skip
 case nilIface=>simp at h;subst h;rfl
 case nilFunc=>simp at h;subst h;rfl
 case bool b=>simp at h;subst h;rfl
 case int k n=>simp at h;subst h;rfl
 case string s=>simp at h;subst h;simp [CRep]
 case pointer a=>cases a<;>simp at h;subst h;rfl
 case slice a n cp=>
   split at h
   all_goals first|(simp at h;subst h;simp_all [CRep];done)|(simp_all;done)
theorem Qdh: ∀{vs:List Value} {ds:List D},Qnl vs=some ds-> ∀(c:Ctx) (w:World),Q3v c w ds vs
 |[],ds,h,c,w=>by simp [Qnl]at h;subst h;trivial
 | v ::vs,ds,h,c,w=>by
   simp only[Qnl]at h
   split at h
   . rename_i d l h1 h2
     simp at h;subst h
     exact⟨Z8a h1 c w,Qdh h2 c w⟩
   . cases h
theorem Qox{v:Value}{d:D}(h:Zfy v=some d)(c:Ctx)(w:World):Rep c w d v:=by
 have one:Zeg v=some d->Rep c w d v:=λh=>by
   have:=Z8a h c w
   cases d<;>first|exact this|trivial|exact this.elim
 cases v with
 | agg cs=>
   simp only[Zfy,Option.map_eq_some_iff]at h
   obtain⟨ds,h1,h2⟩:=h
   subst h2
   exact⟨cs.toList,by simp,Qdh h1 c w⟩
 |_=>exact one h
theorem Qgk{P:Program}{T:Tab}(hT:Q52 P T){t:TypeId}{k:TK}{a b:Nat}{cs:List CTy}{z:List D}{e:Bool}(h:T.get t=some ⟨k,a,b,cs,some z,e⟩):
   ∃i u,P.info? t=some i/\i.zero=some u/\Qnl u.cells.toList=some z/\i.size=a/\i.bytes=b/\P.cellsOf t=a/\ ∀w,(zeroValue t).run P w= .ok u w:=by
 obtain⟨i,hi,hs,hb,hl,hk,hz,_⟩:=Qc4 (hT.get h)
 simp only at hz hs hb
 have hz:=hz.symm
 simp only[Option.bind_eq_some_iff]at hz
 obtain⟨u,hu,hz⟩:=hz
 refine⟨i,u,hi,hu,hz,hs,hb,by simp [Program.cellsOf,hi,hs],λw=> ?_⟩
 simp [zeroValue,typeInfo,hi,hu]
theorem Z7s{P:Program}(w:World): ∀(fs:List Field),(∀f∈fs,0<P.cellsOf f.type)->
   (fs.mapM λf=>do pure (f.offset,<-sizeOf f.type):Sem (List (Nat×Nat))).run P w= .ok (fs.map λf=>(f.offset,P.cellsOf f.type)) w
 |[],_=>rfl
 | f::fs,h=>by
   simp only[List.mapM_cons,Sem.run_bind,Qem (h f (by simp)),Result.andThen_ok,Sem.run_pure,Z7s w fs (λg hg=>h g (by simp [hg])),List.map_cons]
theorem vW{P:Program}{T:Tab}(hT:Q52 P T){t:TypeId}{parts:List (Nat×Operand)}{ev:Operand->D}{R:Rows}{K:D->Rows->Prop}(h:Qwr T t parts ev R K):
   ∃val,K val R/\ ∀c w (ρ:Operand->Value),(∀p∈parts,Rep c w (ev p.2) (ρ p.2))->Yld P (Instr.build t (parts.map λp=>(p.1,ρ p.2)).toArray) w c val:=by
 unfold Qwr at h
 split at h
 . rename_i fs _ _ _ ds _ ht
   obtain⟨i,u,hi,hu,hz,_,_,_,hzero⟩:=Qgk hT ht
   obtain⟨gs,hd,hfs⟩:=Q23 hT ht
   rw[Q08]at h
   obtain⟨hpos,h⟩:=h
   have hpos: ∀f∈gs.toList,0<P.cellsOf f.type:=λf hf=>by
     have:=List.all_eq_true.1 hpos (f.offset,f.type,P.cellsOf f.type) (by rw[hfs];exact List.mem_map.2 ⟨f,hf,rfl⟩)
     exact lE this
   obtain⟨ds',hK,hr⟩:=Z3o h
   refine⟨_,hK,λc w ρ hps=> ?_⟩
   obtain⟨cells',h1,h2⟩:=hr c w ρ u.cells (Qdh hz c w) hps
   refine⟨.agg cells',?_,cells'.toList,by simp,h2⟩
   have hpl:(gs.mapM λf=>do pure (f.offset,<-sizeOf f.type):Sem (Array (Nat×Nat))).run P w= .ok (gs.map λf=>(f.offset,P.cellsOf f.type)) w:=by
     have:=Z7s (P:=P) w gs.toList hpos
     rw[<-Array.toArray_toList (xs:=gs),List.mapM_toArray]
     simp only[Sem.run_map,this,Result.andThen_ok,Array.toArray_toList]
     congr 1
     apply Array.ext'
     simp
   have hpe:(λ(i:Nat)=>(gs.map λf=>(f.offset,P.cellsOf f.type))[i]?)=(λ(i:Nat)=>(fs[i]?).map λ(f:Nat×TypeId×Nat)=>(f.1,f.2.2)):=by
     funext i
     rw[hfs]
     simp
     cases gs[i]? <;>rfl
   unfold Instr.build
   simp only[Sem.run_bind,hzero,Result.andThen_ok,run_underlying hd,hpl]
   rw[hpe]
   simp only[h1,Sem.run_pure]
 . rename_i m e esz _ _ _ ds _ ht
   obtain⟨i,u,hi,hu,hz,_,_,_,hzero⟩:=Qgk hT ht
   have hk:=Q23 hT ht
   simp only at hk
   rw[Q08]at h
   obtain⟨h0,h⟩:=h
   have h0:0<esz:=lE h0
   obtain⟨ds',hK,hr⟩:=Z3o h
   refine⟨_,hK,λc w ρ hps=> ?_⟩
   obtain⟨cells',h1,h2⟩:=hr c w ρ u.cells (Qdh hz c w) hps
   refine⟨.agg cells',?_,cells'.toList,by simp,h2⟩
   unfold Instr.build
   simp only[Sem.run_bind,hzero,Result.andThen_ok,run_underlying hk.1,Qem (hk.2▸h0),hk.2]
   simp only[h1,Sem.run_pure]
 . exact h.elim
def Zbz(c:Ctx)(w:World)(row:Row)(arr:Array Value):Prop:=
 0<row.sz/\if row.box then∃e,row.es= .gen [e]/\e.length=row.sz/\arr.size=row.sz/\Q4g c w e arr 0 else Q1r c.I w row.es.l arr 0 row.sz
def Zmc(P:Program)(x:Sem Value)(w:World)(c:Ctx)(k:Nat)(row:Row)(d:D):Prop:=
 ∃u arr,x.run P w= .ok u (w.alloc (.cells arr row.ty))/\Zbz c w row arr/\(c.R k=none->Mem c w->Rep (c.add k row w.heap.size) (w.alloc (.cells arr row.ty)) d u)
theorem Zez{c:Ctx}{w:World}: ∀{ds:List D} {vs:List Value} {pre:List Value},Q3v c w ds vs->Q4g c w ds (pre++vs).toArray pre.length
 |[],_,_,_=>trivial
 |d::ds,[],_,h=>h.elim
 | d::ds,v::vs,pre,h=>by
   refine⟨⟨v,by simp,h.1⟩,?_⟩
   have:=Zez (pre:=pre++[v]) h.2
   simpa using this
theorem Zhl{c:Ctx}{w:World}{t:TypeId}{sz:Nat}{ds:List D}{vs:Array Value}(h0:0<sz)(hl:ds.length=sz)(h:Q3v c w ds vs.toList):Zbz c w ⟨true,t,sz, .gen [ds]⟩ vs:=by
 refine⟨h0,?_⟩
 simp only[if_true]
 refine⟨ds,rfl,hl,by rw[<-hl,h.length];simp,?_⟩
 have:=Zez (pre:=[]) h
 simpa using this
theorem Qvj(P:Program)(t:TypeId)(v:Value)(w:World):(newVar t v).run P w= .ok ⟨w.heap.size,0,none⟩ (w.alloc (.cells v.cells t)):=rfl
theorem Zm{P:Program}{T:Tab}(hT:Q52 P T){t:TypeId}{k:TK}{sz b:Nat}{cs:List CTy}{ds:List D}{e:Bool}(ht:T.get t=some ⟨k,sz,b,cs,some ds,e⟩)(h0:0<sz)(hl:ds.length=sz)(n:Nat)(c:Ctx)(w:World):
   Zmc P (Instr.alloc t true (.tuple #[])) w c n ⟨true,t,sz, .gen [ds]⟩ (.ptr n 0 0):=by
 obtain⟨i,u,hi,hu,hz,_,_,_,hzero⟩:=Qgk hT ht
 refine⟨.pointer (some ⟨w.heap.size,0,none⟩),u.cells,?_,Zhl h0 hl (Qdh hz c w),λ_ _=> ?_⟩
 . simp only[Instr.alloc,Sem.run_bind,hzero,Result.andThen_ok,Qvj,Sem.run_pure]
 . exact⟨_,(Ctx.add_self _ _ _ _).1,by simp [Ctx.add],by simp [Els.len],by simp [(Ctx.add_self _ _ _ _).2]⟩
theorem zaU{P:Program}{t:TypeId}{sz:Nat}{d:D}{v:Value}(h0:0<sz)(hv:d.isVal=true)(hl:d.cells.length=sz)(n:Nat)(c:Ctx)(w:World)(hr:Rep c w d v):
   Zmc P (Instr.box t v) w c n ⟨true,t,sz, .gen [d.cells]⟩ (.ptr n 0 0):=by
 refine⟨.pointer (some ⟨w.heap.size,0,none⟩),v.cells,?_,Zhl h0 hl (Rep.cells hv hr),λ_ _=> ?_⟩
 . simp only[Instr.box,Sem.run_bind,Qvj,Result.andThen_ok,Sem.run_pure]
 . exact⟨_,(Ctx.add_self _ _ _ _).1,by simp [Ctx.add],by simp [Els.len],by simp [(Ctx.add_self _ _ _ _).2]⟩
theorem Q42{I:Blocks}{w:World}: ∀{cs:List D} {arr:Array Value} {off:Nat},Qev I w cs arr off↔ ∀j,j<cs.length-> ∃v,arr[off+j]? =some v/\PRep I w (cs.getD j .dead) v
  |[],arr,off=>by simp [Qdc,Qag]
  | d ::cs,arr,off=>by
    simp only[Qdc,Qag,Q42 (cs:=cs)]
    constructor
    . rintro⟨h1,h2⟩ j hj
      cases j with
      |zero=>simpa using h1
      | succ j=>
        have:=h2 j (by simpa using hj)
        rw[show off+1+j=off+(j+1) by omega]at this
        simpa using this
    . intro h
      refine⟨by simpa using h 0 (by simp),λj hj=> ?_⟩
      have:=h (j+1) (by simpa using hj)
      rw[show off+(j+1)=off+1+j by omega]at this
      simpa using this
theorem Q4y{I:Blocks}{w:World}: ∀{es:List (List D)} {arr:Array Value} {off sz:Nat},Q1r I w es arr off sz↔ ∀i,i<es.length->(es.getD i []).length=sz/\Qev I w (es.getD i []) arr (off+i*sz)
  |[],arr,off,sz=>by simp [Q2v,Q2a]
  | e ::es,arr,off,sz=>by
    simp only[Q2v,Q2a,Q4y (es:=es)]
    constructor
    . rintro⟨h1,h2,h3⟩ i hi
      cases i with
      |zero=>simpa using⟨h1,h2⟩
      | succ i=>
        have:=h3 i (by simpa using hi)
        rw[show off+sz+i*sz=off+(i+1)*sz by rw[Nat.succ_mul];omega]at this
        simpa using this
    . intro h
      have h0:=h 0 (by simp)
      simp at h0
      refine⟨h0.1,h0.2,λi hi=> ?_⟩
      have:=h (i+1) (by simpa using hi)
      rw[show off+(i+1)*sz=off+sz+i*sz by rw[Nat.succ_mul];omega]at this
      simpa using this
theorem Z7y{c:Ctx}{w:World}: ∀{cs:List D} {arr:Array Value} {off:Nat},Q4g c w cs arr off↔ ∀j,j<cs.length-> ∃v,arr[off+j]? =some v/\CRep c w (cs.getD j .dead) v
  |[],arr,off=>by simp [Q4g]
  | d ::cs,arr,off=>by
    simp only[Q4g,Z7y (cs:=cs)]
    constructor
    . rintro⟨h1,h2⟩ j hj
      cases j with
      |zero=>simpa using h1
      | succ j=>
        have:=h2 j (by simpa using hj)
        rw[show off+1+j=off+(j+1) by omega]at this
        simpa using this
    . intro h
      refine⟨by simpa using h 0 (by simp),λj hj=> ?_⟩
      have:=h (j+1) (by simpa using hj)
      rw[show off+(j+1)=off+1+j by omega]at this
      simpa using this
theorem Qgc: ∀{us vs:List Value} {off k:Nat},off+us.length<=vs.length->(Q44 vs off us)[k]? =if off<=k/\k<off+us.length then us[k-off]? else vs[k]?
  | [],vs,off,k,_=>by
    have: ¬(off<=k/\k<off):=by omega
    simp [Q44,this]
  | u ::us,vs,off,k,h=>by
    simp only[List.length_cons]at h
    unfold Q44
    rw[Qgc (us:=us) (by simp;omega)]
    by_cases h1:off+1<=k/\k<off+1+us.length
    . rw[if_pos h1,if_pos (by simp;omega)]
      rw[show k-off=(k-(off+1))+1 by omega]
      simp
    . rw[if_neg h1]
      by_cases h2:k=off
      . subst h2
        rw[if_pos (by simp)]
        simp only[Nat.sub_self,List.getElem?_cons_zero]
        rw[List.getElem?_set_self (by omega)]
      . rw[if_neg (by simp;omega),List.getElem?_set_ne (by omega)]
theorem Qe6: ∀{us vs:List Value} {off:Nat},(Q44 vs off us).length=vs.length
 |[],_,_=>rfl
 |u::us,vs,off=>by unfold Q44;rw[Qe6];simp
theorem Qa4: ∀{us vs:List D} {off k:Nat},off+us.length<=vs.length->(Q2i vs off us)[k]? =if off<=k/\k<off+us.length then us[k-off]? else vs[k]?
  | [],vs,off,k,_=>by
    have: ¬(off<=k/\k<off):=by omega
    simp [Q2i,this]
  | u ::us,vs,off,k,h=>by
    simp only[List.length_cons]at h
    unfold Q2i
    rw[Qa4 (us:=us) (by simp;omega)]
    by_cases h1:off+1<=k/\k<off+1+us.length
    . rw[if_pos h1,if_pos (by simp;omega)]
      rw[show k-off=(k-(off+1))+1 by omega]
      simp
    . rw[if_neg h1]
      by_cases h2:k=off
      . subst h2
        rw[if_pos (by simp)]
        simp only[Nat.sub_self,List.getElem?_cons_zero]
        rw[List.getElem?_set_self (by omega)]
      . rw[if_neg (by simp;omega),List.getElem?_set_ne (by omega)]
theorem CRep.plain{c:Ctx}{w:World}{d:D}{v:Value}(hp:d.plain=true)(h:CRep c w d v):PRep c.I w d v:=by
 cases d<;>(try(simp [D.plain]at hp;done))
 case bool=>exact Q4o.2 h
 case int=>exact Q72.2 h
 case str=>exact Q6v.2 h
 case nilp=>exact Q4q.2 h
 case nils=>exact Q4j.2 h
 case emp=>exact Q7a.2 (let⟨a,g,_⟩:=h;⟨a,g⟩)
 obtain⟨a,cap,hv,hc,hes⟩:=h
 refine Qbm.2 ⟨a,cap,hv,hc,?_⟩
 rcases hes with hes|⟨b,off,arr,ty,fz,ha,hI,hf,hh,hE⟩
 . exact .inl hes
 . exact .inr ⟨b,off,arr,ty,fz,ha,hI,hh,Z0x.2 hE⟩
theorem Qyt{c:Ctx}{w:World}{es:List (List D)}{arr:List Value}{sz i off:Nat}{xs:List D}{us:List Value}(h:Q1r c.I w es arr.toArray 0 sz)(hi:i<es.length)(hoff:off+xs.length<=sz)
    (hx:Q3v c w xs us) (hp:xs.all D.plain=true) (ha:i*sz+sz<=arr.length):Q1r c.I w (es.set i (Q2i (es.getD i []) off xs)) (Q44 arr (i*sz+off) us).toArray 0 sz:=by
  have hlen:=hx.length
  rw[Q4y]at h⊢
  intro k hk
  have hk':k<es.length:=by simpa using hk
  obtain⟨h1,h2⟩:=h k hk'
  rw[Q42]at h2
  by_cases hik:k=i
  . subst hik
    have he:(es.set k (Q2i (es.getD k []) off xs)).getD k []=Q2i (es.getD k []) off xs:=by simp [List.getD,hk']
    rw[he]
    refine⟨by rw[Qcf];exact h1,?_⟩
    rw[Q42]
    intro j hj
    rw[Qcf,h1]at hj
    have hg:(Q2i (es.getD k []) off xs).getD j .dead=if off<=j/\j<off+xs.length then(xs.getD (j-off) .dead) else(es.getD k []).getD j .dead:=by
      simp only[List.getD]
      rw[Qa4 (by simp only[List.getD]at h1;omega)]
      split<;>rfl
    have hv:(Q44 arr (k*sz+off) us).toArray[0+k*sz+j]? =if off<=j/\j<off+xs.length then us[j-off]? else arr[k*sz+j]? :=by
      simp only[List.getElem?_toArray,Nat.zero_add]
      rw[Qgc (by omega)]
      by_cases hc:off<=j/\j<off+xs.length
      . rw[if_pos (by omega),if_pos hc];congr 1;omega
      . rw[if_neg (by omega),if_neg hc]
    rw[hg,hv]
    split
    . rename_i hc
      have hjl:j-off<us.length:=by omega
      have hpl:(xs.getD (j-off) .dead).plain=true:=by
        have hm:xs.getD (j-off) .dead∈xs:=by
          simp only[List.getD,List.getElem?_eq_getElem (show j-off<xs.length by omega),Option.getD_some]
          exact List.getElem_mem _
        exact List.all_eq_true.1 hp _ hm
      exact⟨us[j-off],List.getElem?_eq_getElem hjl,CRep.plain hpl ((Qc0.1 hx).2 _ _ (List.getElem?_eq_getElem hjl))⟩
    . obtain⟨v,hv1,hv2⟩:=h2 j (by rw[h1];exact hj)
      exact⟨v,by simpa using hv1,hv2⟩
  . have he:(es.set i (Q2i (es.getD i []) off xs)).getD k []=es.getD k []:=by
      simp [List.getD,List.getElem?_set_ne (Ne.symm hik)]
    rw[he]
    refine⟨h1,?_⟩
    rw[Q42]
    intro j hj
    obtain⟨v,hv1,hv2⟩:=h2 j hj
    refine⟨v,?_,hv2⟩
    simp only[List.getElem?_toArray,Nat.zero_add]at hv1⊢
    rw[Qgc (by omega),if_neg]
    . exact hv1
    . rw[h1]at hj
      rintro⟨g1,g2⟩
      rcases Nat.lt_or_gt_of_ne hik with hlt|hlt
      . have:=Nat.mul_le_mul_right sz (show k+1<=i by omega)
        rw[Nat.succ_mul]at this
        omega
      . have:=Nat.mul_le_mul_right sz (show i+1<=k by omega)
        rw[Nat.succ_mul]at this
        omega
theorem Z3t{I:Blocks}{w:World}{es:List (List D)}{arr:Array Value}{sz i:Nat}(h:Q1r I w es arr 0 sz)(h0:0<sz)(hi:i<es.length):i*sz+sz<=arr.size:=by
 obtain⟨h1,h2⟩:=Q4y.1 h i hi
 obtain⟨v,hv,_⟩:=Q42.1 h2 (sz-1) (by omega)
 have:=(Array.getElem?_eq_some_iff.1 hv).1
 omega
def Ctx.upd(c:Ctx)(r:Nat)(row:Row):Ctx:={c with R:=λs=>if s=r then some row else c.R s}
theorem Qot(w:World)(g:Nat)(cs:Array Value):Fr (λb=>b=g) w (w.setRow g cs):=
 ⟨rfl,rfl,rfl,by simp [World.setRow],λb _ hb=>setRow_other w g b cs hb⟩
theorem Mem.write{c:Ctx}{w:World}(hm:Mem c w){r:Nat}{row row':Row}{old arr:Array Value}(hr:c.R r=some row)(hV: ¬c.V r)(hh:w.heap[c.ρ r]? =some (.cells old row.ty (0,0)))(hsz:arr.size=old.size)
   (h1:row'.box=row.box) (h2:row'.ty=row.ty) (h3:row'.sz=row.sz) (h4:row'.es.l.length=row.es.l.length):
   Q3s c w (c.upd r row') (w.setRow (c.ρ r) arr)/\(Zbz (c.upd r row') (w.setRow (c.ρ r) arr) row' arr->Mem (c.upd r row') (w.setRow (c.ρ r) arr)):=by
 have hnew:(w.setRow (c.ρ r) arr).heap[c.ρ r]? =some (.cells arr row.ty (0,0)):=setRow_heap w _ _ _ _ _ hh
 have hoth: ∀s x,c.R s=some x-> ¬c.V s->s≠r->(w.setRow (c.ρ r) arr).heap[c.ρ s]? =w.heap[c.ρ s]? :=λs x hs hv hne=>setRow_other w _ _ _ (λe=>hne (hm.inj s r x row hs hr hv hV e))
 have hg:Q3s c w (c.upd r row') (w.setRow (c.ρ r) arr):=by
   refine⟨rfl,Nat.le_refl _,λb hb=>⟨hb,setRow_other w _ _ _ (λe=>(hm.imm b hb).2 r row hr hV e.symm)⟩,λs x hs=> ?_⟩
   by_cases e:s=r
   . subst e
     rw[hr]at hs;cases hs
     exact⟨row',by simp [Ctx.upd],h1,h2,h3,h4,rfl,Iff.rfl,λ_ a ha=>⟨arr,hnew,by rw[hh]at ha;cases ha;exact hsz⟩⟩
   . exact⟨x,by simp [Ctx.upd,e,hs],rfl,rfl,rfl,rfl,rfl,Iff.rfl,λnv a ha=>⟨a,by rw[hoth s x hs nv e];exact ha,rfl⟩⟩
 refine⟨hg,λhi=>⟨λs x hs=> ?_,λs q x y hs hq v1 v2 he=> ?_,λb hb=> ?_,by show c.top<=(w.setRow _ _).heap.size;simpa [World.setRow] using hm.top⟩⟩
 . by_cases e:s=r
   . subst e
     simp only[Ctx.upd,if_true,Option.some.injEq]at hs
     subst hs
     exact .inr ⟨hV,arr,by rw[h2];exact hnew,hi.1,hi.2⟩
   . have hs':c.R s=some x:=by simpa [Ctx.upd,e] using hs
     exact Q3 hg rfl Iff.rfl (λnv=>hoth s x hs' nv e) (hm.row s x hs')
 . have old: ∀s x,(c.upd r row').R s=some x-> ∃x',c.R s=some x':=λs x hs=>by
     by_cases e:s=r
     . exact⟨row,by rw[e];exact hr⟩
     . exact⟨x,by simpa [Ctx.upd,e] using hs⟩
   obtain⟨x',hx'⟩:=old s x hs
   obtain⟨y',hy'⟩:=old q y hq
   exact hm.inj s q x' y' hx' hy' v1 v2 he
 . obtain⟨g1,g2⟩:=hm.imm b hb
   refine⟨by simpa [World.setRow] using g1,λs x hs hv=> ?_⟩
   by_cases e:s=r
   . subst e;exact g2 s row hr hV
   . exact g2 s x (by simpa [Ctx.upd,e] using hs) hv
theorem Zhq{P:Program}{t:TypeId}{n:Nat}(hs:P.cellsOf t=n)(h0:0<n){w:World}{g o:Nat}{ty:TypeId}{cur:Array Value}(hg:w.heap[g]? =some (.cells cur ty (0,0))){v:Value}(hn:v.cells.size=n)(hr:o+n<=cur.size)(h1: ∀u∈v.cells.toList,u.oneCell'=true):
   (Instr.storeAt t (.pointer (some ⟨g,o,none⟩)) v).run P w= .ok () (w.setRow g (Q44 cur.toList o v.cells.toList).toArray):=by
 have h:=run_storeCells_at (P:=P) g o ty v.cells.toList 0 cur w hg (by simp;omega) h1
 have hne: ¬v.cells.size≠P.cellsOf t:=by omega
 simp only[Instr.storeAt,Instr.sureAddr,Sem.run_bind,Sem.run_pure,Result.andThen_ok,storeVar,Qem (hs▸h0),Sem.run_ite,hne,if_false,h]
 congr 3
 apply List.ext_getElem?
 intro k
 rw[Qgc (by simp;omega)]
 simp only[Nat.add_zero,Array.length_toList]
 by_cases hc:o<=k/\k<o+v.cells.size
 . rw[if_pos hc,List.append_assoc,List.getElem?_append_right (by simp;omega),List.getElem?_append_left (by simp;omega)]
   congr 1;simp;omega
 . rw[if_neg hc]
   by_cases hk:k<o
   . rw[List.append_assoc,List.getElem?_append_left (by simp;omega),List.getElem?_take_of_lt hk]
   . rw[List.getElem?_append_right (by simp;omega),List.getElem?_drop]
     congr 1;simp;omega
theorem Q3v.one{c:Ctx}{w:World}: ∀{ds:List D} {vs:List Value},Q3v c w ds vs-> ∀u∈vs,u.oneCell'=true
 |[],[],_,_,h=>by simp at h
 | d::ds,v::vs,h,u,hu=>by
   rcases List.mem_cons.1 hu with e|e
   . subst e;exact CRep.one h.1
   . exact Q3v.one h.2 u e
theorem Zd4{c:Ctx}{w:World}{e:List D}{arr:List Value}{off:Nat}{xs:List D}{us:List Value}(h:Q4g c w e arr.toArray 0)(hoff:off+xs.length<=e.length)(he:e.length=arr.length)
   (hx:Q3v c w xs us):Q4g c w (Q2i e off xs) (Q44 arr off us).toArray 0:=by
 have hlen:=hx.length
 rw[Z7y]at h⊢
 intro j hj
 rw[Qcf]at hj
 simp only[List.getD,List.getElem?_toArray,Nat.zero_add]at h⊢
 rw[Qa4 hoff,Qgc (by omega)]
 by_cases hc:off<=j/\j<off+xs.length
 . rw[if_pos hc,if_pos (by omega)]
   have hjl:j-off<us.length:=by omega
   exact⟨us[j-off],List.getElem?_eq_getElem hjl,(Qc0.1 hx).2 _ _ (List.getElem?_eq_getElem hjl)⟩
 . rw[if_neg hc,if_neg (by omega)]
   exact h j hj
def Wrote(P:Program)(x:Sem Unit)(w:World)(c:Ctx)(R':Rows):Prop:=
 ∃r row' arr w',x.run P w= .ok () w'/\w'=w.setRow (c.ρ r) arr/\(∃row,c.R r=some row)/\ ¬c.V r/\Q3s c w (c.upd r row') w'/\Mem (c.upd r row') w'/\ ∀s,(c.upd r row').R s=R'.getD s none
theorem Z7a{k:IntKind}{l:List Int}: ∀{n j i:Nat},i<n->(Qxv k l j n)[i]? =some (.int k (l.getD (j+i) 0))
 |n+1,j,0,_=>by simp [Qxv]
 | n+1,j,i+1,h=>by
   have:=Z7a (k:=k) (l:=l) (n:=n) (j:=j+1) (i:=i) (by omega)
   rw[show j+1+i=j+(i+1) by omega]at this
   simpa [Qxv] using this
theorem Qmy{k:IntKind}{l:List Int}: ∀{n j:Nat},(Qxv k l j n).length=n
 |0,_=>rfl
 |n+1,j=>by simp [Qxv,Qmy (n:=n)]
theorem Z7q{l:List Bool}: ∀{n j i:Nat},i<n->(Qyo l j n)[i]? =some (.bool (l.getD (j+i) false))
 |n+1,j,0,_=>by simp [Qyo]
 | n+1,j,i+1,h=>by
   have:=Z7q (l:=l) (n:=n) (j:=j+1) (i:=i) (by omega)
   rw[show j+1+i=j+(i+1) by omega]at this
   simpa [Qyo] using this
theorem Qma{l:List Bool}: ∀{n j:Nat},(Qyo l j n).length=n
 |0,_=>rfl
 |n+1,j=>by simp [Qyo,Qma (n:=n)]
theorem Z4{e:List D}: ∀{n off:Nat},(ints e off n).length=n
 |0,_=>rfl
 |n+1,off=>by simp [ints,Z4 (n:=n)]
theorem Qyj{e:List D}: ∀{n off:Nat},(bools e off n).length=n
 |0,_=>rfl
 |n+1,off=>by simp [bools,Qyj (n:=n)]
