import Derived.Test.YtjaifpiopmhmlaaGreatBareRunsDraw
import Derived.LoopN
import Derived.IntWalk
set_option linter.all false
namespace Go.GD
open Go
def foldD(ex:List Nat)(M:Nat)(R:Rows)(d p:D):Prop:=
 match p with
 | .dead=>True
 | .ptr i o f=>match d with| .ptr r o' f'=>cand (inEx ex i r) (o'=o/\f'=f)|_=>False
 | .iptr sz es i off=>match d with| .iptr sz' es' i' off'=>sz'=sz/\Els.Eq es' es/\i'=i/\off'=off|_=>False
 |p=>retD ex M R d p
def foldE(ex:List Nat)(M:Nat)(R:Rows)(env:List (Nat×D)):List (Nat×D)->Prop
 |[]=>True
 |(t,p)::l=>foldD ex M R (look env t) p/\foldE ex M R env l
def fold(M:Nat)(ex:List Nat)(st:St)(env':List (Nat×D))(rows':List Row):Prop:=
 cand (exOK M ex) (foldE ex M st.rows st.env env'/\Q3m ex M st.rows ex rows')
theorem qc{c:Ctx}{w:World}{ex:List Nat}{m:Nat}{R:Rows}{rows:List Row}(hm:Mem c w)(hR: ∀r,c.R r=R.getD r none)(hrows:Q3m ex m R ex rows)(hnew: ∀r row,c.R r=some row-> ¬c.V r->m<=r->c.base<=c.ρ r){d p:D}{v:Value}(h:foldD ex m R d p)(hr:Rep c w d v):Rep (c.out ex rows) w p v:=by
 have himm: ∀b,c.I b->(c.out ex rows).I b/\w.heap[b]? =w.heap[b]? :=λb hb=>⟨.inl hb,rfl⟩
 cases p with
 |dead=>trivial
 | ptr i o f=>
   simp only[foldD]at h
   split at h
   . rename_i r o' f'
     simp only[Q09]at h
     obtain⟨hx,rfl,rfl⟩:=h
     exact Zhb (w:=w) hR hrows hx hr
   . exact h.elim
 | iptr sz es i off=>
   simp only[foldD]at h
   split at h
   . obtain⟨rfl,he,rfl,rfl⟩:=h
     have he:=Els.Eq_l he
     obtain⟨b,o,arr,ty,fz,h1,h2,h3,h4,h5⟩:=hr
     rw[he]at h3 h5
     exact⟨b,o,arr,ty,fz,h1, .inl h2,h3,h4,Q19 himm _ _ _ _ h5⟩
   . exact h.elim
 | _=>
   simp only[foldD]at h
   exact Z8v hm hR hrows hnew h hr
theorem Zb2{c:Ctx}{w:World}{ex:List Nat}{m:Nat}{R:Rows}{rows:List Row}(hm:Mem c w)(hR: ∀r,c.R r=R.getD r none)(hrows:Q3m ex m R ex rows)(hnew: ∀r row,c.R r=some row-> ¬c.V r->m<=r->c.base<=c.ρ r){env:List (Nat×D)}{a:Act}(he: ∀t,Rep c w (look env t) (a.tmps.getD t undef)):
   ∀{env':List (Nat×D)},foldE ex m R env env'-> ∀t,Rep (c.out ex rows) w (look env' t) (a.tmps.getD t undef)
 |[],_,t=>trivial
 | (u,p)::l,h,t=>by
   have:=Zb2 hm hR hrows hnew he h.2 t
   rw[Qge]
   split
   . rename_i e
     subst e
     exact qc hm hR hrows hnew h.1 (he u)
   . exact this
theorem xc{N M:Nat}{c0:Ctx}{w0:World}{c:Ctx}{w:World}{st:St}{a:Act}(hs:SimS N M c0 w0 c w st a){ex:List Nat}{env':List (Nat×D)}{rows':List Row}(h:fold M ex st env' rows'): ∃c',SimS N M c0 w0 c' w ⟨env',rows'.map some⟩ a:=by
 unfold fold at h
 simp only[Q09]at h
 obtain⟨hex,hE,hrows⟩:=h
 obtain⟨hnew,hmem,hreach⟩:=zp hs hex hrows
 refine⟨c.out ex rows',hmem,λr=> ?_,Zb2 hs.mem hs.rows hrows hnew hs.env hE,hs.size,hs.defers,hs.base0,hs.own0,hreach⟩
 simp only[Ctx.out,List.getD,List.getElem?_map]
 cases rows'[r]? <;>rfl
theorem Tr.mono{P:Program}{N M:Nat}{code:Code}{st:St}{Q Q':Ex->St->Prop}(hq: ∀e st,Q e st->Q' e st)(h:Tr P N M code st Q):Tr P N M code st Q':=
 λc0 w0 c w a hs=>wp_mono (h c0 w0 c w a hs) λe a' w' ⟨ex,st',c',h1,h2,h3⟩=>⟨ex,st',c',h1,hq _ _ h2,h3⟩
theorem vZ{P:Program}{N M:Nat}{code:Code}{st:St}{Q:Ex->St->Prop}{α:Type}(F:α->List (Nat×D)×List Row)(Pre:α->Prop)(μ:α->Nat)
    (a0:α) (ex0:List Nat) (hp:Pre a0) (h0:fold M ex0 st (F a0).1 (F a0).2)
    (round: ∀a,Pre a->Tr P N M code ⟨(F a).1,(F a).2.map some⟩ λe st'=>match e with
      | .normal=> ∃b ex,Pre b/\μ b<μ a/\fold M ex st' (F b).1 (F b).2
      | .exit i=>Q (.exit i) st'
      | .ret=>Q .ret st'):Tr P N M (.loop code) st Q:=by
  intro c0 w0 c w a hs
  have key: ∀(n:Nat) (x:α),Pre x->μ x<n-> ∀(c:Ctx) (w:World) (a:Act),SimS N M c0 w0 c w ⟨(F x).1,(F x).2.map some⟩ a->
      Code.rounds P code (λe a' w'=> ∃ex st' c',exOf e=some ex/\Q ex st'/\SimS N M c0 w0 c' w' st' a') n a w:=by
    intro n
    induction n with
    |zero=>intro x _ h;omega
    | succ n ih=>
      intro x hx hlt c w a hs
      rw[rounds_succ]
      refine wp_mono (round x hx c0 w0 c w a hs) λe a' w' hq=> ?_
      obtain⟨ex,st',c',he,hq,hs'⟩:=hq
      cases e<;>simp only[exOf,Option.some.injEq,reduceCtorEq]at he
      . subst he
        obtain⟨b,ex,h1,h2,h3⟩:=hq
        obtain⟨c'',hs''⟩:=xc hs' h3
        exact ih b h1 (by omega) c'' w' a' hs''
      . subst he;exact⟨_,st',c',rfl,hq,hs'⟩
      . subst he;exact⟨_,st',c',rfl,hq,hs'⟩
  obtain⟨c',hs'⟩:=xc hs h0
  exact wp_loop_rounds _ (key (μ a0+1) a0 hp (by omega) c' w a hs')
structure LInv where
 α:Type
 F:St->α->List (Nat×D)×List Row
 a0:St->α
 ex0:St->List Nat
 next:St->α
 ex:St->List Nat
structure Ask(p:Prop):Prop where
 ok:p
def keyOf:Code->Nat
 | .region id _ _=>id
 | .block id _=>id
 | .seq a _=>keyOf a
 | .loop a=>keyOf a
 |_=>0
def findI:List (Nat×LInv)->Nat->Option LInv
 |[],_=>none
 |(k,i)::l,n=>match Nat.beq k n with|true=>some i|false=>findI l n
def LL (T:Tab)(G:List Q0c)(N M:Nat)(invs:List (Nat×LInv)):Nat->Code->St->(Ex->St->Prop)->Prop
  |0,_,_,_=>False
  | d + 1,code,st,Q=>match code with
    | .loop c=>match findI invs (keyOf c) with
      | some i=> ∃(Pre:i.α->Prop) (μ:i.α->Nat),Pre (i.a0 st)/\fold M (i.ex0 st) st (i.F st (i.a0 st)).1 (i.F st (i.a0 st)).2/\ ∀a:i.α,Pre a->Qep T G N M (LL T G N M invs d) c ⟨(i.F st a).1,(i.F st a).2.map some⟩ λe st'=>match e with
        | .normal=>(Pre (i.next st')/\μ (i.next st')<μ a)/\fold M (i.ex st') st' (i.F st (i.next st')).1 (i.F st (i.next st')).2
        | .exit j=>Q (.exit j) st'
        | .ret=>Q .ret st'
      |none=>False
    |_=>False
theorem LL_ok{P:Program}(hD:Qk9 P){T:Tab}(hT:Q5t P T){G:List Q0c}(hG:Q8y P G){N M:Nat}{invs:List (Nat×LInv)}: ∀(d:Nat) (code:Code) (st:St) (Q:Ex->St->Prop),LL T G N M invs d code st Q->Tr P N M code st Q
  |0,_,_,_,h=>h.elim
  | d + 1,code,st,Q,h=>by
    unfold LL at h
    split at h
    . rename_i c
      split at h
      . rename_i i hi
        obtain⟨Pre,μ,h1,h2,h3⟩:=h
        refine vZ (i.F st) Pre μ (i.a0 st) (i.ex0 st) h1 h2 λa ha=>(Z19 hD hT hG (LL_ok hD hT hG d) c _ _ (h3 a ha)).mono λe st' hq=> ?_
        cases e with
        |normal=>exact⟨_,_,hq.1.1,hq.1.2,hq.2⟩
        |exit j=>exact hq
        |ret=>exact hq
      . exact h.elim
    . exact h.elim
def cellOf(R:Rows)(r j:Nat):D:=match R.getD r none with|some row=>(row.es.get 0).getD j .dead|none=> .dead
def esOf(R:Rows)(r:Nat):Els:=match R.getD r none with|some row=>row.es|none=> .gen []
def Q3e(R:Rows)(r:Nat):List Int:=match R.getD r none with|some ⟨_,_,_, .ints _ l⟩=>l|_=>[]
def Q3x(k:RK)(R:Rows)(r:Nat):List (RK.T k):=match R.getD r none with|some ⟨_,_,_, .recs k' l⟩=>(match Zcd k' k l with|some m=>m|none=>[])|_=>[]
def frzI(k:IntKind)(R:Rows)(d:D):List Int:=match d with| .all r=>Q3e R r| .own r _ _=>Q3e R r|d=>slI k d
def Q0o(d:D)(n:Nat):Nat:=match d with| .all r=>r| .own r _ _=>r| .ptr r _ _=>r| .pa r _ _ _ _ _=>r|_=>n
theorem w64{n:Int}(h1: -9223372036854775808<=n)(h2:n<=9223372036854775807):IntKind.wrap .i64 n=n:=by rw[IntKind.wrap_i64];omega
inductive Dir where
 |sl (t:CT) (fr:Bool)
 |row (ty sz:Nat) (t:CT)
def Qww:CT->Els
 | .ints k=> .ints k []
 | .bools=> .bools []
 | .recs k=> .recs k []
 |_=> .gen []
def CT.esz:CT->Nat
 | .recs k=>k.size
 |_=>1
def toCT:CT->Els->Option Els
 | .ints k,E=>match E.toI k with|some l=>some (.ints k l)|none=>none
 | .bools,E=>match E.toB with|some l=>some (.bools l)|none=>none
 | .recs k,E=>match E.toR k with|some l=>some (.recs k l)|none=>none
 |_,_=>none
theorem Qut(t:CT):(Qww t).Nil:=by cases t<;>rfl
theorem Qzk{t:CT}{E E':Els}(h:toCT t E=some E'):Els.Eq E E':=by
  cases t with
  | ints k=>
    simp only[toCT]at h
    split at h
    . rename_i l hl
      cases h
      cases E with
      | ints k' m=>
        simp only[Els.toI]at hl
        split at hl
        . rename_i hk;cases hl;simp only[Els.Eq,hk]
        . cases hl
      |gen es=>cases es<;>simp [Els.toI]at hl;subst hl;rfl
      |bools m=>simp [Els.toI]at hl
      |recs k m=>simp [Els.toI]at hl
    . cases h
  | bools=>
    simp only[toCT]at h
    split at h
    . rename_i l hl
      cases h
      cases E with
      |bools m=>simp [Els.toB]at hl;subst hl;rfl
      |gen es=>cases es<;>simp [Els.toB]at hl;subst hl;rfl
      |ints k m=>simp [Els.toB]at hl
      |recs k m=>simp [Els.toB]at hl
    . cases h
  | recs k=>
    simp only[toCT]at h
    split at h
    . rename_i l hl
      cases h
      cases E with
      |recs k' m=>simp only[Els.toR]at hl;simp only[Els.Eq,hl]
      |gen es=>cases es<;>simp [Els.toR]at hl;subst hl;rfl
      |ints k m=>simp [Els.toR]at hl
      |bools m=>simp [Els.toR]at hl
    . cases h
  |_=>simp [toCT]at h
structure CanS where
 ds:List Dir
 ex:List (Nat×Row)
 fz:List Nat
def ptrLt(m:Nat):List (Nat×Nat×Nat)->Bool
 |[]=>true
 |p::l=>Nat.blt p.1 m&&ptrLt m l
def Zhk(m:Nat):List Cap->Bool
 |[]=>true
 | .ptr r _ _::l=>Nat.blt r m&&Zhk m l
 | .fn _ ps::l=>ptrLt m ps&&Zhk m l
 |_=>false
theorem zc{m:Nat}{EX:List Nat}(hE: ∀i,i<m->EX[i]? =some i): ∀{ps:List (Nat×Nat×Nat)},ptrLt m ps=true->ptrX EX ps ps=true
 |[],_=>rfl
 | (r,a,b)::l,h=>by
   simp only[ptrLt,Bool.and_eq_true]at h
   simp only[ptrX,inEx,hE r (Nat.le_of_ble_eq_true h.1),zc hE h.2]
   simp
theorem z6{m:Nat}{EX:List Nat}(hE: ∀i,i<m->EX[i]? =some i): ∀{cs:List Cap},Zhk m cs=true->capX EX cs cs=true:=by
 intro cs
 induction cs with
 |nil=>intro _;rfl
 | cons x l ih=>
   intro h
   cases x with
   | ptr r a b=>
     simp only[Zhk,Bool.and_eq_true]at h
     simp only[capX,inEx,hE r (Nat.le_of_ble_eq_true h.1),ih h.2]
     simp
   | fn f ps=>
     simp only[Zhk,Bool.and_eq_true]at h
     simp only[capX,zc hE h.1,ih h.2]
     simp
   |_=>simp [Zhk]at h
def Zk8(m:Nat)(R:Rows)(c:D)(s:CanS):Option (D×CanS):=
  match c with
  | .int k n=>some (.int k n,s)
  | .bool b=>some (.bool b,s)
  | .str x=>some (.str x,s)
  | .nilp=>some (.nilp,s)
  | .nilif=>some (.nilif,s)
  | .selfp r=>match Nat.blt r m with|true=>some (.selfp r,s)|false=>none
  | .clo f cs=>match Zhk m cs with|true=>some (.clo f cs,s)|false=>none
  | .nils=>match s with
    |⟨.sl t f::ds,ex,fz⟩=>some (.sl t.esz (Qww t) f,⟨ds,ex,fz⟩)
    |⟨.row ty sz t::ds,ex,fz⟩=>match Nat.blt 0 sz with|true=>some (.all (m+ex.length),⟨ds,ex++[(R.length+ex.length,⟨false,ty,sz,Qww t⟩)],fz⟩)|false=>none
    |_=>none
  | .emp=>match s with
    |⟨.sl t f::ds,ex,fz⟩=>some (.sl t.esz (Qww t) f,⟨ds,ex,fz⟩)
    |⟨.row ty sz t::ds,ex,fz⟩=>match Nat.blt 0 sz with|true=>some (.all (m+ex.length),⟨ds,ex++[(R.length+ex.length,⟨false,ty,sz,Qww t⟩)],fz⟩)|false=>none
    |_=>none
  | .sl n E fr=>match s with
    | ⟨.sl t f::ds,ex,fz⟩=>match toCT t E,(!f||fr)&&(Nat.beq n t.esz||Zgi E) with
      |some E',true=>some (.sl t.esz E' f,⟨ds,ex,fz⟩)
      |_,_=>none
    |_=>none
  | .all r=>match s with
    | ⟨.sl t f::ds,ex,fz⟩=>match R.getD r none with
      | some ⟨box,_,sz',E⟩=>match toCT t E,!box&&(Nat.beq sz' t.esz&&Nat.ble m r) with
        |some E',true=>some (.sl t.esz E' f,⟨ds,ex,r::fz⟩)
        |_,_=>none
      |none=>none
    | ⟨.row ty sz t::ds,ex,fz⟩=>match Nat.blt r m with
      |true=>some (.all r,⟨ds,ex,fz⟩)
      | false=>match R.getD r none with
        | some ⟨box,ty',sz',E⟩=>match toCT t E,!box&&(Nat.beq ty' ty&&Nat.beq sz' sz) with
          |some E',true=>some (.all (m+ex.length),⟨ds,ex++[(r,⟨false,ty,sz,E'⟩)],fz⟩)
          |_,_=>none
        |none=>none
    |_=>none
  | .own r o n=>match s with
    | ⟨.sl t f::ds,ex,fz⟩=>match R.getD r none with
      | some ⟨box,_,sz',E⟩=>match toCT t ((E.drop o).take n),!box&&(Nat.beq sz' t.esz&&Nat.ble m r) with
        |some E',true=>some (.sl t.esz E' f,⟨ds,ex,r::fz⟩)
        |_,_=>none
      |none=>none
    |_=>none
  |_=>none
def Zkh(m:Nat)(R:Rows):List D->CanS->Option (List D×CanS)
 |[],s=>some ([],s)
 | c ::cs,s=>match Zk8 m R c s with
   | some (c',s')=>match Zkh m R cs s' with
     |some (cs',s'')=>some (c'::cs',s'')
     |none=>none
   |none=>none
def canV(m:Nat)(R:Rows)(d:D)(s:CanS):Option (D×CanS):=
 match d with
 | .agg cs=>match Zkh m R cs s with|some (cs',s')=>some (.agg cs',s')|none=>none
 |d=>Zk8 m R d s
def canVs(m:Nat)(R:Rows):List D->CanS->Option (List D×CanS)
 |[],s=>some ([],s)
 | c ::cs,s=>match canV m R c s with
   | some (c',s')=>match canVs m R cs s' with
     |some (cs',s'')=>some (c'::cs',s'')
     |none=>none
   |none=>none
def canD(m:Nat)(R:Rows)(d:D)(s:CanS):Option (D×CanS):=
 match d with
 | .tup ds=>match canVs m R ds s with|some (ds',s')=>some (.tup ds',s')|none=>none
 |d=>canV m R d s
def Zli(m:Nat)(R:Rows):Nat->Nat->CanS->Option (List Row×CanS)
 |0,_,s=>some ([],s)
 | n + 1,i,s=>match R.getD i none with
   | some ⟨true,ty,sz, .gen [e]⟩=>match Zkh m R e s with
     | some (e',s')=>match Zli m R n (i+1) s' with
       |some (rs,s'')=>some (⟨true,ty,sz, .gen [e']⟩::rs,s'')
       |none=>none
     |none=>none
   | some ⟨false,ty,sz,E⟩=>match Zli m R n (i+1) s with
     |some (rs,s'')=>some (⟨false,ty,sz,E⟩::rs,s'')
     |none=>none
   |_=>none
def exl(m:Nat)(ex:List (Nat×Row)):List Nat:=List.range m++ex.map (·.1)
def Qdy(m:Nat)(ds:List Dir)(d:D)(R:Rows)(K:D->List Row->Prop):Prop:=
 match canD m R d ⟨ds,[],[]⟩ with
 | some (d',s)=>match Zli m R m 0 s with
   |some (rs,s')=>cand (exOK m (exl m s'.ex)&&s'.fz.all (Zl2 (exl m s'.ex))) (K d' (rs++s'.ex.map (·.2)))
   |none=>False
 |none=>False
def ExG(R:Rows)(x:Nat×Row):Prop:=
 x.2.box=false/\match R.getD x.1 none with
 |some ⟨box',ty',sz',es'⟩=>box'=false/\ty'=x.2.ty/\sz'=x.2.sz/\Els.Eq es' x.2.es
 |none=>0<x.2.sz/\x.2.es.Nil
structure CanG(m:Nat)(R:Rows)(EX:List Nat)(s:CanS):Prop where
 at_: ∀(i:Nat) x,s.ex[i]? =some x->EX[m+i]? =some x.1
 good: ∀x∈s.ex,ExG R x
 out: ∀r∈s.fz,Zl2 EX r=true
def Que(s s':CanS):Prop:=s.ex<+:s'.ex/\s.fz<:+s'.fz
theorem Que.refl(s:CanS):Que s s:=⟨List.prefix_refl _,List.suffix_refl _⟩
theorem Que.trans{a b c:CanS}(h:Que a b)(g:Que b c):Que a c:=⟨h.1.trans g.1,h.2.trans g.2⟩
theorem yc{E:Els}(h:Zgi E=true):E.Nil:=Els.Nil_l.2 (Z8x h)
theorem Zd7{m:Nat}{R:Rows}{c c':D}{s s':CanS}(h:Zk8 m R c s=some (c',s')):
    Que s s'/\((∀x∈s.ex,ExG R x)-> ∀x∈s'.ex,ExG R x)/\ ∀EX:List Nat,(∀i,i<m->EX[i]? =some i)->CanG m R EX s'->retC EX m R c c':=by
  have vir: ∀{ty sz t},Nat.blt 0 sz=true->((∀x∈s.ex,ExG R x)-> ∀x∈s.ex++[(R.length+s.ex.length,(⟨false,ty,sz,Qww t⟩:Row))],ExG R x)/\
      ∀(EX:List Nat) (ds:List Dir) (fz:List Nat),CanG m R EX ⟨ds,s.ex++[(R.length+s.ex.length,(⟨false,ty,sz,Qww t⟩:Row))],fz⟩->Zhn EX R (m+s.ex.length)=true:=by
    intro ty sz t hsz
    have hn:R.getD (R.length+s.ex.length) none=none:=by rw[List.getD,List.getElem?_eq_none (by omega)];rfl
    refine⟨λhg x hx=> ?_,λEX ds fz hG=> ?_⟩
    . simp only[List.mem_append,List.mem_singleton]at hx
      rcases hx with hx|rfl
      . exact hg x hx
      . refine⟨rfl,?_⟩
        simp only[hn]
        exact⟨Nat.le_of_ble_eq_true hsz,Qut t⟩
    . have:=hG.at_ s.ex.length (R.length+s.ex.length,⟨false,ty,sz,Qww t⟩) (by simp)
      simp only[Zhn,this,hn]
  cases c<;>simp only[Zk8]at h<;>try(cases h;done)
  case int k n=>cases h;exact⟨.refl _,id,λEX _ _=>by simp [retC,cand]⟩
  case bool b=>cases h;exact⟨.refl _,id,λEX _ _=>by simp [retC]⟩
  case str x=>cases h;exact⟨.refl _,id,λEX _ _=>by simp [retC]⟩
  case nilp=>cases h;exact⟨.refl _,id,λEX _ _=>by simp [retC]⟩
  case nilif=>cases h;exact⟨.refl _,id,λEX _ _=>by simp [retC]⟩
  case selfp r=>
    split at h
    . rename_i hr
      cases h
      refine⟨.refl _,id,λEX hE _=> ?_⟩
      have:=hE r (Nat.le_of_ble_eq_true hr)
      simp only[retC,Q09,inEx,this]
      exact⟨by simp,trivial⟩
    . cases h
  case clo f cs=>
    split at h
    . rename_i hr
      cases h
      refine⟨.refl _,id,λEX hE _=> ?_⟩
      simp only[retC,Q09,z6 hE hr]
      exact⟨by simp,trivial⟩
    . cases h
  case nils=>
    split at h
    . cases h;exact⟨.refl _,id,λEX _ _=>Qut _⟩
    . split at h
      . rename_i hsz
        cases h
        obtain⟨v1,v2⟩:=vir hsz
        exact⟨⟨List.prefix_append _ _,List.suffix_refl _⟩,v1,λEX _ hG=>by simp only[retC,Q09];exact⟨v2 EX _ _ hG,trivial⟩⟩
      . cases h
    . cases h
  case emp=>
    split at h
    . cases h;exact⟨.refl _,id,λEX _ _=>Qut _⟩
    . split at h
      . rename_i hsz
        cases h
        obtain⟨v1,v2⟩:=vir hsz
        exact⟨⟨List.prefix_append _ _,List.suffix_refl _⟩,v1,λEX _ hG=>by simp only[retC,Q09];exact⟨v2 EX _ _ hG,trivial⟩⟩
      . cases h
    . cases h
  case sl n E fr=>
    split at h
    . rename_i t f ds ex fz
      split at h
      . rename_i E' hE hb
        cases h
        simp only[Bool.and_eq_true,Bool.or_eq_true]at hb
        refine⟨.refl _,id,λEX _ _=> ?_⟩
        simp only[retC,Q09]
        exact⟨by simpa using hb.1,hb.2.symm.imp yc Nat.eq_of_beq_eq_true,Qzk hE⟩
      . cases h
    . cases h
  case all r =>
    split at h
    . rename_i t f ds ex fz
      split at h
      . rename_i box ty sz' E hR
        split at h
        . rename_i E' hE hb
          cases h
          simp only[Bool.and_eq_true]at hb
          refine⟨⟨List.prefix_refl _,List.suffix_cons _ _⟩,id,λEX _ hG=> ?_⟩
          simp only[retC,hR,Q09,Bool.and_eq_true]
          exact⟨⟨⟨⟨hb.1,hb.2.1⟩,hG.out r (by simp)⟩,hb.2.2⟩,Qzk hE⟩
        . cases h
      . cases h
    . rename_i ty sz t ds ex fz
      split at h
      . rename_i hlt
        cases h
        refine⟨.refl _,id,λEX hEX hG=> ?_⟩
        simp only[retC,Q09]
        have:=hEX r (Nat.le_of_ble_eq_true hlt)
        exact⟨by simp [inEx,this],trivial⟩
      . split at h
        . rename_i box ty' sz' E hR
          split at h
          . rename_i E' hE hb
            cases h
            simp only[Bool.and_eq_true,Bool.not_eq_true']at hb
            refine⟨⟨List.prefix_append _ _,List.suffix_refl _⟩,λhg x hx=> ?_,λEX hEX hG=> ?_⟩
            . simp only[List.mem_append,List.mem_singleton]at hx
              rcases hx with hx|rfl
              . exact hg x hx
              . refine⟨rfl,?_⟩
                simp only[hR]
                exact⟨hb.1,Nat.eq_of_beq_eq_true hb.2.1,Nat.eq_of_beq_eq_true hb.2.2,Qzk hE⟩
            . have:=hG.at_ ex.length (r,⟨false,ty,sz,E'⟩) (by simp)
              simp only[retC,Q09]
              exact⟨by simp [inEx,this],trivial⟩
          . cases h
        . cases h
    . cases h
  case own r o n=>
    split at h
    . rename_i t f ds ex fz
      split at h
      . rename_i box ty sz' E hR
        split at h
        . rename_i E' hE hb
          cases h
          simp only[Bool.and_eq_true]at hb
          refine⟨⟨List.prefix_refl _,List.suffix_cons _ _⟩,id,λEX _ hG=> ?_⟩
          simp only[retC,hR,Q09,Bool.and_eq_true]
          exact⟨⟨⟨⟨hb.1,hb.2.1⟩,hG.out r (by simp)⟩,hb.2.2⟩,Qzk hE⟩
        . cases h
      . cases h
    . cases h
theorem CanG.mono{m:Nat}{R:Rows}{EX:List Nat}{s s':CanS}(hl:Que s s')(h:CanG m R EX s'):CanG m R EX s:=
 ⟨λi x hx=>h.at_ i x (by
   obtain⟨t,ht⟩:=hl.1
   rw[<-ht,List.getElem?_append_left (List.getElem?_eq_some_iff.1 hx).1];exact hx),λx hx=>h.good x (hl.1.subset hx),λr hr=>h.out r (hl.2.subset hr)⟩
theorem Z7c{m:Nat}{R:Rows}: ∀{cs cs':List D} {s s':CanS},Zkh m R cs s=some (cs',s')->
    Que s s'/\((∀x∈s.ex,ExG R x)-> ∀x∈s'.ex,ExG R x)/\ ∀EX:List Nat,(∀i,i<m->EX[i]? =some i)->CanG m R EX s'->Za0 EX m R cs cs'
  |[],cs',s,s',h=>by simp only[Zkh]at h;cases h;exact⟨.refl _,id,λ_ _ _=>trivial⟩
  | c ::cs,cs',s,s',h=>by
    simp only[Zkh]at h
    split at h
    . rename_i c1 s1 h1
      split at h
      . rename_i cs1 s2 h2
        cases h
        obtain⟨a1,a2,a3⟩:=Zd7 h1
        obtain⟨b1,b2,b3⟩:=Z7c h2
        exact⟨a1.trans b1,λh=>b2 (a2 h),λEX hEX hG=>⟨a3 EX hEX (hG.mono b1),b3 EX hEX hG⟩⟩
      . cases h
    . cases h
theorem vc{m:Nat}{R:Rows}{d d':D}{s s':CanS}(h:canV m R d s=some (d',s')):
   Que s s'/\((∀x∈s.ex,ExG R x)-> ∀x∈s'.ex,ExG R x)/\ ∀EX:List Nat,(∀i,i<m->EX[i]? =some i)->CanG m R EX s'->retV EX m R d d':=by
 unfold canV at h
 split at h
 . rename_i cs
   split at h
   . rename_i cs' s1 h1
     cases h
     exact Z7c h1
   . cases h
 . rename_i hne
   obtain⟨a1,a2,a3⟩:=Zd7 h
   refine⟨a1,a2,λEX hEX hG=> ?_⟩
   have h3:=a3 EX hEX hG
   cases d' with
   |agg ps=>simp [retC]at h3
   |_=>exact h3
theorem Zih{m:Nat}{R:Rows}: ∀{cs cs':List D} {s s':CanS},canVs m R cs s=some (cs',s')->
    Que s s'/\((∀x∈s.ex,ExG R x)-> ∀x∈s'.ex,ExG R x)/\ ∀EX:List Nat,(∀i,i<m->EX[i]? =some i)->CanG m R EX s'->retVs EX m R cs cs'
  |[],cs',s,s',h=>by simp only[canVs]at h;cases h;exact⟨.refl _,id,λ_ _ _=>trivial⟩
  | c ::cs,cs',s,s',h=>by
    simp only[canVs]at h
    split at h
    . rename_i c1 s1 h1
      split at h
      . rename_i cs1 s2 h2
        cases h
        obtain⟨a1,a2,a3⟩:=vc h1
        obtain⟨b1,b2,b3⟩:=Zih h2
        exact⟨a1.trans b1,λh=>b2 (a2 h),λEX hEX hG=>⟨a3 EX hEX (hG.mono b1),b3 EX hEX hG⟩⟩
      . cases h
    . cases h
theorem v6{m:Nat}{R:Rows}{d d':D}{s s':CanS}(h:canD m R d s=some (d',s')):
   Que s s'/\((∀x∈s.ex,ExG R x)-> ∀x∈s'.ex,ExG R x)/\ ∀EX:List Nat,(∀i,i<m->EX[i]? =some i)->CanG m R EX s'->retD EX m R d d':=by
 unfold canD at h
 split at h
 . rename_i cs
   split at h
   . rename_i cs' s1 h1
     cases h
     exact Zih h1
   . cases h
 . rename_i hne
   obtain⟨a1,a2,a3⟩:=vc h
   refine⟨a1,a2,λEX hEX hG=> ?_⟩
   have h3:=a3 EX hEX hG
   cases d' with
   |tup ps=>simp [retV,retC]at h3
   |_=>exact h3
theorem Z99{m:Nat}{R:Rows}: ∀{n i:Nat} {rs:List Row} {s s':CanS},Zli m R n i s=some (rs,s')->
    Que s s'/\((∀x∈s.ex,ExG R x)-> ∀x∈s'.ex,ExG R x)/\ ∀EX:List Nat,(∀i,i<m->EX[i]? =some i)->CanG m R EX s'->Q3m EX m R (List.range' i n) rs
  |0,i,rs,s,s',h=>by simp only[Zli]at h;cases h;exact⟨.refl _,id,λ_ _ _=>trivial⟩
  | n + 1,i,rs,s,s',h=>by
    simp only[Zli]at h
    split at h
    . rename_i ty sz e hR
      split at h
      . rename_i e1 s1 h1
        split at h
        . rename_i rs1 s2 h2
          cases h
          obtain⟨a1,a2,a3⟩:=Z7c h1
          obtain⟨b1,b2,b3⟩:=Z99 h2
          refine⟨a1.trans b1,λh=>b2 (a2 h),λEX hEX hG=> ?_⟩
          rw[List.range'_succ]
          simp only[Q3m,hR,Q09]
          exact⟨⟨by simp,a3 EX hEX (hG.mono b1)⟩,b3 EX hEX hG⟩
        . cases h
      . cases h
    . rename_i ty sz E hR
      split at h
      . rename_i rs1 s2 h2
        cases h
        obtain⟨b1,b2,b3⟩:=Z99 h2
        refine⟨b1,b2,λEX hEX hG=> ?_⟩
        rw[List.range'_succ]
        simp only[Q3m,hR,Q09]
        refine⟨⟨by simp,?_⟩,b3 EX hEX hG⟩
        cases E with
        |gen es=>cases es<;>simp [Els.Eq]
        |recs k l=>simp [Els.Eq,Z6z]
        |_=>simp [Els.Eq]
      . cases h
    . cases h
theorem Qq0{ex:List Nat}{m:Nat}{R:Rows}: ∀{l1 l2:List Nat} {p1 p2:List Row},Q3m ex m R l1 p1->Q3m ex m R l2 p2->Q3m ex m R (l1++l2) (p1++p2)
 |[],l2,[],p2,_,h=>h
 | r::l1,l2,p::p1,p2,h1,h2=>by
   simp only[List.cons_append,Q3m]at h1⊢
   exact⟨h1.1,Qq0 h1.2 h2⟩
 |[],_,_::_,_,h,_=>h.elim
 |_::_,_,[],_,h,_=>h.elim
theorem Z6c{ex:List Nat}{m:Nat}{R:Rows}: ∀{l:List (Nat×Row)},(∀x∈l,ExG R x)->Q3m ex m R (l.map (·.1)) (l.map (·.2))
 |[],_=>trivial
 | (r,⟨box,ty,sz,es⟩)::l,h=>by
   simp only[List.map_cons,Q3m]
   refine⟨?_,Z6c λx hx=>h x (by simp [hx])⟩
   obtain⟨h1,h2⟩:=h (r,⟨box,ty,sz,es⟩) (by simp)
   simp only at h1 h2
   subst h1
   split
   . rename_i box' ty' sz' es' hR
     simp only[hR]at h2
     obtain⟨rfl,rfl,rfl,h2⟩:=h2
     simp only[Q09]
     exact⟨by simp,h2⟩
   . rename_i hR
     simp only[hR]at h2
     simp only[Q09]
     exact⟨by simpa using h2.1,h2.2⟩
theorem Z5c{m:Nat}{ds:List Dir}{d:D}{R:Rows}{K:D->List Row->Prop}(h:Qdy m ds d R K): ∃res rows,K res rows/\RetE m res rows d R:=by
  unfold Qdy at h
  split at h
  . rename_i d' s h1
    split at h
    . rename_i rs s' h2
      simp only[Q09,Bool.and_eq_true]at h
      obtain⟨⟨hx,hf⟩,hK⟩:=h
      obtain⟨a1,a2,a3⟩:=v6 h1
      obtain⟨b1,b2,b3⟩:=Z99 h2
      have hgood: ∀x∈s'.ex,ExG R x:=b2 (a2 λx hx=>by simp at hx)
      have hEX: ∀i,i<m->(exl m s'.ex)[i]? =some i:=λi hi=>by
        unfold exl
        rw[List.getElem?_append_left (by simpa using hi)];simp [hi]
      have hG:CanG m R (exl m s'.ex) s':=⟨λi x hx=>by
        unfold exl
        rw[List.getElem?_append_right (by simp)]
        simp [hx],hgood,λr hr=>List.all_eq_true.1 hf r hr⟩
      refine⟨d',_,hK,exl m s'.ex,hx,a3 _ hEX (hG.mono b1),?_⟩
      have h3:=b3 _ hEX hG
      have:exl m s'.ex=List.range' 0 m++s'.ex.map (·.1):=by unfold exl;rw[List.range_eq_range']
      refine Eq.mpr ?_ (Qq0 h3 (Z6c hgood))
      rw[<-this]
    . exact h.elim
  . exact h.elim
end Go.GD
