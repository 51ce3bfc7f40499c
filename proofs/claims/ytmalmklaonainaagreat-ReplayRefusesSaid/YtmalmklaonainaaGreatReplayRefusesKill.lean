import Derived.Test.YtmalmklaonainaaGreatReplayRefusesCode
import Derived.Laws.Append
import Derived.Laws.CopyRow
import Derived.Laws.AppendOwn
set_option linter.all false
namespace Go.GD
open Go
section
variable {c:Ctx} {w:World} {ks:List Nat}
theorem Q4v(ks:List Nat)(row:Row):(row.kill ks).box=row.box/\(row.kill ks).ty=row.ty/\(row.kill ks).sz=row.sz/\(row.kill ks).es.l.length=row.es.l.length:=by
 unfold Row.kill;split<;>exact⟨rfl,rfl,rfl,rfl⟩
theorem Qyc: ∀{e:List D},(D.kills ks e).length=e.length
 |[]=>rfl
 |d::l=>by simp [D.kills,Qyc (e:=l)]
theorem Z7g{d:D}{v:Value}(hne: ∀f cs,d≠ .clo f cs)(h:CRep c w d v):CRep (c.kill ks) w (d.kill1 ks) v:=by
  have key: ∀r row,memB r ks=false->c.R r=some row->(c.kill ks).R r=some (row.kill ks):=λr row hr hrow=>by simp [Ctx.kill,hr,hrow]
  have h1:=CRep.one h
  cases d with
  | all r=>
    simp only[D.kill1]
    cases hr:memB r ks with
    |true=>exact h1
    | false=>
      obtain⟨row,g1,g2,g3⟩:=h
      obtain⟨s1,s2,s3,s4⟩:=Q4v ks row
      exact⟨_,key r row hr g1,s1.trans g2,by rw[s2,s3,s4];exact g3⟩
  | own r o n=>
    simp only[D.kill1]
    cases hr:memB r ks with
    |true=>exact h1
    | false=>
      obtain⟨row,g1,g2,g3,g4⟩:=h
      obtain⟨s1,s2,s3,s4⟩:=Q4v ks row
      exact⟨_,key r row hr g1,s1.trans g2,by rw[s4];exact g3,by rw[s2,s3];exact g4⟩
  | ptr r i off=>
    simp only[D.kill1]
    cases hr:memB r ks with
    |true=>exact h1
    | false=>
      obtain⟨row,g1,g2,g3,g4⟩:=h
      obtain⟨s1,s2,s3,s4⟩:=Q4v ks row
      exact⟨_,key r row hr g1,g2,by rw[s4];exact g3,by rw[s3];exact g4⟩
  | pa r i off len k n=>
    simp only[D.kill1]
    cases hr:memB r ks with
    |true=>exact h1
    | false=>
      obtain⟨g0,row,g1,g2,g3,g4⟩:=h
      obtain⟨s1,s2,s3,s4⟩:=Q4v ks row
      exact⟨g0,_,key r row hr g1,g2,by rw[s4];exact g3,by rw[s3];exact g4⟩
  | selfp r=>
    simp only[D.kill1]
    cases hr:memB r ks with
    |true=>exact h1
    | false=>
      rcases h with h|⟨row,g1,g2,g3,g4⟩
      . exact .inl h
      . obtain⟨s1,s2,s3,s4⟩:=Q4v ks row
        exact .inr ⟨_,key r row hr g1,g2,by rw[s4];exact g3,by rw[s3];exact g4⟩
  |clo f cs=>exact absurd rfl (hne f cs)
  |_=>exact h
theorem xq{d:D}(hne: ∀f cs,d≠ .clo f cs)(h: ∀r∈Q8x d,memB r ks=false):d.kill1 ks=d:=by
 cases d<;>first|rfl|(simp only[D.kill1];rw[h _ (by simp [Q8x])])|exact absurd rfl (hne _ _)
theorem Qtq{d:D}{v:Value}(h:CRep c w d v):CRep (c.kill ks) w (d.kill1 ks) v:=by
  by_cases e: ∃g cs,d= .clo g cs
  . obtain⟨g,cs,rfl⟩:=e
    have h1:=CRep.one h
    simp only[D.kill1]
    cases hd:disB (capL cs) ks with
    |false=>exact h1
    | true=>
      obtain⟨us,hv,hu⟩:=h
      exact⟨us,hv,Z30 (c:=c) (w:=w) (c':=c.kill ks) (w':=w) (S:=λr=>memB r ks=false) (λd v q1 q2 q3=>by have:=Z7g (ks:=ks) q1 q3;rwa [xq q1 q2]at this) (λ_ hb=>⟨hb,rfl⟩) (λr hr=>by
        have:=Z0l.1 hd r hr
        cases hm:memB r ks with
        |false=>rfl
        |true=>exact(this (Q39.1 hm)).elim) hu⟩
  . exact Z7g (λf cs e'=>e ⟨f,cs,e'⟩) h
theorem Zd1: ∀{ds:List D} {vs:List Value},Q3v c w ds vs->Q3v (c.kill ks) w (D.kills ks ds) vs
 |[],[],_=>trivial
 |_::_,_::_,h=>⟨Qtq h.1,Zd1 h.2⟩
 |[],_::_,h=>h.elim
 |_::_,[],h=>h.elim
theorem Zmd{d:D}{v:Value}(h:VRep c w d v):VRep (c.kill ks) w (d.kill ks) v:=by
 cases d with
 |agg cs=>obtain⟨vs,hv,hr⟩:=h;exact⟨vs,hv,Zd1 hr⟩
 | _=>
   have:=Qtq (ks:=ks) (VRep.toC (λcs e=>by cases e) h)
   exact VRep.ofC this
theorem Zdd: ∀{ds:List D} {vs:List Value},Q8a c w ds vs->Q8a (c.kill ks) w (D.killT ks ds) vs
 |[],[],_=>trivial
 |_::_,_::_,h=>⟨Zmd h.1,Zdd h.2⟩
 |[],_::_,h=>h.elim
 |_::_,[],h=>h.elim
theorem Z2k{d:D}{v:Value}(h:Rep c w d v):Rep (c.kill ks) w (d.killV ks) v:=by
 cases d with
 |tup ds=>obtain⟨vs,hv,hr⟩:=h;exact⟨vs,hv,Zdd hr⟩
 |dead=>trivial
 | _=>
   have:=Zmd (ks:=ks) (Rep.toV (λds e=>by cases e) (λe=>by cases e) h)
   exact Rep.ofV this
theorem Z8h: ∀{ds:List D} {arr:Array Value} {off:Nat},Q4g c w ds arr off->Q4g (c.kill ks) w (D.kills ks ds) arr off
 |[],_,_,_=>trivial
 |_::_,_,_,⟨⟨v,hv,h1⟩,h2⟩=>⟨⟨v,hv,Qtq h1⟩,Z8h h2⟩
theorem Zlz{r:Nat}{row:Row}(h:Quy c w r row):Quy (c.kill ks) w r (row.kill ks):=by
  obtain⟨s1,s2,s3,s4⟩:=Q4v ks row
  rcases h with⟨h0,h1,h2,h3⟩|⟨h0,arr,ha,hs,hx⟩
  . refine .inl ⟨h0,s1.trans h1,?_,by rw[s3];exact h3⟩
    rw[h2]at s4;exact List.eq_nil_of_length_eq_zero s4
  . refine .inr ⟨h0,arr,by rw[s2];exact ha,by rw[s3];exact hs,?_⟩
    rw[s1,s3]
    split
    . rename_i hb
      simp only[hb,if_true]at hx
      obtain⟨e,k1,k2,k3,k4⟩:=hx
      obtain⟨box,ty,sz,es⟩:=row
      simp only at hb k1 k2 k3 k4
      subst hb;subst k1
      exact⟨D.kills ks e,rfl,by rw[Qyc];exact k2,k3,Z8h k4⟩
    . rename_i hb
      simp only[hb,Bool.false_eq_true,if_false]at hx
      have he:(row.kill ks).es=row.es:=by
        unfold Row.kill
        split
        . simp at hb
        . rfl
      rw[he];exact hx
theorem Q3r{r:Nat}{x:Row}(h:(c.kill ks).R r=some x):memB r ks=false/\ ∃row,c.R r=some row/\x=row.kill ks:=by
 simp only[Ctx.kill]at h
 cases hb:memB r ks with
 |true=>rw[hb]at h;simp at h
 | false=>
   rw[hb]at h
   simp only[Bool.false_eq_true,if_false,Option.map_eq_some_iff]at h
   obtain⟨row,h1,h2⟩:=h
   exact⟨rfl,row,h1,h2.symm⟩
theorem Zc6(hm:Mem c w):Mem (c.kill ks) w:=by
 refine⟨λr x hx=> ?_,λr s x y hx hy v1 v2 he=> ?_,λb hb=>⟨(hm.imm b hb).1,λr x hx v=> ?_⟩,hm.top⟩
 . obtain⟨_,row,h1,rfl⟩:=Q3r hx
   exact Zlz (hm.row r row h1)
 . obtain⟨_,row,h1,_⟩:=Q3r hx
   obtain⟨_,row',h2,_⟩:=Q3r hy
   exact hm.inj r s row row' h1 h2 v1 v2 he
 . obtain⟨_,row,h1,_⟩:=Q3r hx
   exact(hm.imm b hb).2 r row h1 v
end
theorem Zl1: ∀{l:List Nat},disB l []=true
 |[]=>rfl
 |x::l=>by simp only[disB,memB];exact Zl1
theorem Z3h(d:D):d.kill1 []=d:=by
 cases d with
 |clo f cs=>simp only[D.kill1,Zl1]
 |_=>rfl
theorem Z3e: ∀{ds:List D},D.kills [] ds=ds
 |[]=>rfl
 |d::l=>by simp only[D.kills,Z3h,Z3e (ds:=l)]
theorem Z2w(row:Row):row.kill []=row:=by
 unfold Row.kill;split
 . simp [Z3e]
 . rfl
theorem vT(c:Ctx):c.kill []=c:=by
 obtain⟨ρ,R,V,I,base,top,X⟩:=c
 simp only[Ctx.kill,memB,Bool.false_eq_true,if_false]
 congr 1
 funext r
 cases R r<;>simp [Z2w]
theorem NxtW.toK{c c':Ctx}{w w':World}(h:NxtW c w c' w'):NxtK [] c w c' w':=
 ⟨h.mem,by rw[vT];exact h.grows,h.fr,λb hb=>(h.imm b hb).imp id .inr,λr row' h1 h2=>(h.rho r row' h1 h2).imp id .inr⟩
theorem Qoi{ks:List Nat}: ∀{R:Rows} {i r:Nat},(Qo3 ks R i).getD r none=if memB (i+r) ks=true then none else(R.getD r none).map (Row.kill ks)
 |[],i,r=>by simp [Qo3]
 | x::l,i,0=>by
   simp only[Qo3,Nat.add_zero]
   cases memB i ks<;>cases x<;>simp
 | x::l,i,r+1=>by
   have:=Qoi (ks:=ks) (R:=l) (i:=i+1) (r:=r)
   rw[show i+1+r=i+(r+1) by omega]at this
   simpa [Qo3] using this
theorem Qae{ks:List Nat}: ∀{R:Rows} {i:Nat},(Qo3 ks R i).length=R.length
 |[],_=>rfl
 |x::l,i=>by simp [Qo3,Qae (R:=l)]
def Qa7(ks:List Nat)(env:List (Nat×D)):List (Nat×D):=env.map λx=>(x.1,x.2.killV ks)
theorem Qiv{ks:List Nat}: ∀{env:List (Nat×D)} {K:List (Nat×D)->Prop},Zdx ks env K↔K (Qa7 ks env)
 |[],_=>Iff.rfl
 | (t,d)::l,K=>by
   simp only[Zdx,D.force_iff]
   rw[Qiv (env:=l) (K:=λl=>K ((t,d.killV ks)::l))]
   rfl
theorem Qa5{ks:List Nat}: ∀{env:List (Nat×D)} {t:Nat},look (Qa7 ks env) t=(look env t).killV ks
 |[],_=>rfl
 | (u,d)::l,t=>by
   simp only[Qa7,List.map_cons,look]
   cases Nat.beq u t with
   |true=>rfl
   |false=>exact Qa5 (env:=l)
theorem Qny{P:Program}(w:World){t tx ty e:TypeId}{i:TypeInfo}{ux:TypeDesc}(ht:P.underlying t=some (.slice e))(hux:P.underlying tx=some ux)(hx: ∀k,ux≠ .int k)(hi:P.info? e=some i)
   {a:Option Addr} {n cap m:Nat} {x:Value} {news:List Value} (hl:(Builtin.lenOf x).run P w= .ok m w) (hf:(Builtin.firstCells i.size m x).run P w= .ok news.toArray w) (hroom:n+m<=cap) {w':World}
   (hst: ∀b,a=some b->(storeCells (b.add (n*i.size)) news).run P w= .ok () w') (hno:a=none->w'=w):
   (Builtin.append_ #[t,tx] ty #[.slice a n cap,x]).run P w= .ok (.slice a (n+m) cap) w':=by
 have hz:(match ux with| .int _=>true|_=>false)=false:=by
   cases ux<;>first|rfl|exact absurd rfl (hx _)
 cases a with
 | none=>
   have:=hno rfl
   subst this
   simp [Builtin.append_,run_underlying ht,run_underlying hux,hz,sizeOf,typeInfo,hi,hl,hroom,hf]
 |some b=>simp [Builtin.append_,run_underlying ht,run_underlying hux,hz,sizeOf,typeInfo,hi,hl,hroom,hf,hst b rfl]
theorem Qns{P:Program}(w:World){t tx ty e:TypeId}{i:TypeInfo}{z:Value}{ux:TypeDesc}(ht:P.underlying t=some (.slice e))(hux:P.underlying tx=some ux)(hx: ∀k,ux≠ .int k)(hi:P.info? e=some i)(hz:i.zero=some z)
    {a:Option Addr} {n cap m:Nat} {x:Value} {olds news:List Value} (hl:(Builtin.lenOf x).run P w= .ok m w) (hf:(Builtin.firstCells i.size m x).run P w.drew= .ok news.toArray w.drew) (hfo:(Builtin.firstCells i.size n (.slice a n cap)).run P w.drew= .ok olds.toArray w.drew)
    (hg:cap<n+m) (h63:((n+m:Nat):Int)<=9223372036854775807) (hfit:Builtin.nextslicecap (n+m) cap*i.bytes<=281474976710656):
    (Builtin.append_ #[t,tx] ty #[.slice a n cap,x]).run P w= .ok (.slice (some ⟨w.heap.size,0,none⟩) (n+m) (grownCap w (n+m) cap e))
        (w.drew.alloc (.cells (olds.toArray++news.toArray++Builtin.zeroCells z.cells (grownCap w (n+m) cap e-(n+m))) e)):=by
  have hn: ¬(n+m<=cap):=by omega
  have h63': ¬(9223372036854775807<((n:Int)+(m:Int))):=by omega
  have h48': ¬(281474976710656<Builtin.nextslicecap (n+m) cap*i.bytes):=by omega
  simp [Builtin.append_,run_underlying ht,run_underlying hux,sizeOf,typeInfo,zeroValue,hi,hz,hl,hn,h63',h48',Question.forced,hf,hfo,newRow,grownCap]
  congr 2
  apply Array.ext'
  simp [List.append_assoc]
theorem zq{w:World}{b o:Nat}{arr:Array Value}{ty:TypeId}{fz:Nat×Nat}(h:w.heap[b]? =some (.cells arr ty fz))(j:Nat):w.cell? ((⟨b,o,none⟩:Addr).add j)=arr[o+j]? :=by
 rw[Qks]
 unfold World.cell?
 simp [h]
theorem Zgx{I:Blocks}{w:World}{es:List (List D)}{arr:Array Value}{off sz:Nat}(h:Q1r I w es arr off sz)(h0:0<sz): ∃news:List Value,news.length=es.length*sz/\(∀j u,news[j]? =some u->arr[off+j]? =some u)/\Q1r I w es news.toArray 0 sz:=by
  have hsz:es.length*sz<=arr.size-off:=by
    by_cases he:es.length=0
    . rw[he];omega
    . obtain⟨h1,h2⟩:=Q4y.1 h (es.length-1) (by omega)
      obtain⟨v,hv,_⟩:=Q42.1 h2 (sz-1) (by omega)
      have hlt:=(Array.getElem?_eq_some_iff.1 hv).1
      have:es.length*sz=(es.length-1)*sz+sz:=by
        rw[show es.length*sz=(es.length-1+1)*sz by congr 1;omega,Nat.succ_mul]
      omega
  refine⟨(arr.toList.drop off).take (es.length*sz),by simp;omega,λj u hj=> ?_,?_⟩
  . rw[List.getElem?_take]at hj
    split at hj
    . rw[List.getElem?_drop]at hj
      simpa using hj
    . cases hj
  . rw[Q4y]at h⊢
    intro i hi
    obtain⟨h1,h2⟩:=h i hi
    refine⟨h1,?_⟩
    rw[Q42]at h2⊢
    intro j hj
    obtain⟨v,hv,hp⟩:=h2 j hj
    refine⟨v,?_,hp⟩
    have hlt:i*sz+j<es.length*sz:=by
      have:=Nat.mul_le_mul_right sz (show i+1<=es.length by omega)
      rw[Nat.succ_mul]at this
      omega
    simp only[Nat.zero_add,List.getElem?_toArray]
    rw[List.getElem?_take,if_pos hlt,List.getElem?_drop,<-hv]
    simp [Nat.add_assoc]
theorem Q1r.one{I:Blocks}{w:World}{es:List (List D)}{news:List Value}{sz:Nat}(h:Q1r I w es news.toArray 0 sz)(hl:news.length=es.length*sz): ∀u∈news,u.oneCell'=true:=by
 intro u hu
 obtain⟨j,hj⟩:=List.getElem?_of_mem hu
 have hlt:=(List.getElem?_eq_some_iff.1 hj).1
 have h0:0<sz:=by
   rcases Nat.eq_zero_or_pos sz with h0|h0
   . subst h0;simp at hl;rw[hl]at hlt;simp at hlt
   . exact h0
 have hi:j/sz<es.length:=by rw[Nat.div_lt_iff_lt_mul h0];omega
 obtain⟨h1,h2⟩:=Q4y.1 h (j/sz) hi
 obtain⟨v,hv,hp⟩:=Q42.1 h2 (j%sz) (by rw[h1];exact Nat.mod_lt _ h0)
 have e:0+j/sz*sz+j%sz=j:=by rw[Nat.zero_add,Nat.mul_comm];exact Nat.div_add_mod j sz
 rw[e,List.getElem?_toArray,hj]at hv
 cases hv
 exact PRep.one hp
theorem Zjl{I:Blocks}{w:World}(s:List UInt8):Q1r I w (Els.ints .u8 (Qby s)).l (s.map λb=>Value.int .u8 b.toNat).toArray 0 1:=by
 rw[Q4y]
 intro i hi
 have hi':i<s.length:=by simpa [Qby,Els.l] using hi
 have he:(Els.ints .u8 (Qby s)).l.getD i []=[.int .u8 s[i].toNat]:=by simp [Qby,Els.l,List.getD,hi']
 rw[he]
 refine⟨rfl,?_⟩
 simp only[Qdc,Qag,Q4o,Q72,Q6v,Q4q,Q4j,Q7a,Qbm,Q8e,Q8s,Q89,Qcm,Q62,Q67,Q66,Q8m,Q8b,and_true]
 exact⟨_,by simp [hi'],rfl⟩
def Src(P:Program)(c:Ctx)(w:World)(v:Value)(ys:List (List D))(sz:Nat):Prop:=
 ∃news:List Value,news.length=ys.length*sz/\(Builtin.lenOf v).run P w= .ok ys.length w/\(∀k,k<=ys.length-> ∀w',w'.heap=w.heap->(Builtin.firstCells sz k v).run P w'= .ok (news.take (k*sz)).toArray w')/\Q1r c.I w ys news.toArray 0 sz
theorem Qsh{P:Program}{c:Ctx}{w:World}{sz sy:Nat}(h0:0<sz){es:List (List D)}{a:Option Addr}{cap:Nat}(hes:es=[]\/sy=sz/\ ∃b off arr ty fz,a=some ⟨b,off,none⟩/\w.heap[b]? =some (.cells arr ty fz)/\Q1r c.I w es arr off sy):
   Src P c w (.slice a es.length cap) es sz:=by
 rcases hes with hes|⟨hss,b,off,arr,ty,fz,ha,hh,hE⟩
 . subst hes
   refine⟨[],by simp,by simp [Builtin.lenOf],λk hk w' _=> ?_,by simp [Q2v,Q2a]⟩
   have hk0:k=0:=by simpa using hk
   subst hk0
   cases a with
   |none=>simp [Builtin.firstCells]
   | some a=>
     have:=run_firstCells_some (P:=P) w' sz 0 a 0 cap [] (by simp) (λj v h=>by simp at h)
     simpa using this
 . subst hss
   obtain⟨news,g1,g2,g3⟩:=Zgx hE h0
   refine⟨news,g1,by simp [Builtin.lenOf],λk hk w' hw'=> ?_,g3⟩
   subst ha
   refine run_firstCells_some (P:=P) w' sy k ⟨b,off,none⟩ _ cap (news.take (k*sy)) ?_ λj u hj=> ?_
   . have:=Nat.mul_le_mul_right sy hk
     simp;omega
   . rw[zq (by rw[hw'];exact hh)]
     rw[List.getElem?_take]at hj
     split at hj
     . exact g2 j u hj
     . cases hj
theorem qaa{P:Program}{c:Ctx}{w:World}{R:Rows}{y:D}{v:Value}{sy sz:Nat}{ys:Els}(h0:0<sz)(h:srcOf R y=some (sy,ys))(hs:sy=sz\/ys.l=[])(hm:Mem c w)(hA:Q7p c R)(hr:Rep c w y v):Src P c w v ys.l sz:=by
  cases y<;>simp only[srcOf]at h<;>try(cases h;done)
  case nils=>cases h;rw[show v=_ from hr];exact Qsh (sy:=sz) h0 (es:=[]) (.inl rfl)
  case emp=>cases h;obtain⟨a,hv,_⟩:=hr;rw[hv];exact Qsh (sy:=sz) h0 (es:=[]) (.inl rfl)
  case sl s es fr=>
    cases h
    obtain⟨a,cap,hv,hc,hes⟩:=hr
    rw[hv]
    refine Qsh (sy:=sy) h0 ?_
    rcases hes with hes|⟨b,off,arr,ty,fz,ha,hI,hf,hh,hE⟩
    . exact .inl hes
    . rcases hs with hs|hs
      . exact .inr ⟨hs,b,off,arr,ty,fz,ha,hh,hE⟩
      . exact .inl hs
  case all r=>
    split at h
    . rename_i ty s es hR
      cases h
      obtain⟨row,g1,g2,hv⟩:=hr
      have:=hA r row _ g1 hR
      subst this
      rcases hv with⟨hV,a,hv,_⟩|⟨hV,cap,arr,hv,g3,g4,g5,g6⟩
      . have he:=(hm.virt g1 hV).2.1
        simp only at he
        rw[hv,he]
        exact Qsh (sy:=sz) h0 (es:=[]) (.inl rfl)
      . obtain⟨arr',ha',hs',hx⟩:=hm.real g1 hV
        simp only at g5 ha' hx hv
        rw[g5]at ha';cases ha'
        simp only[Bool.false_eq_true,if_false]at hx
        rw[hv]
        refine Qsh (sy:=sy) h0 ?_
        rcases hs with hs|hs
        . exact .inr ⟨hs,_,0,arr,_,_,rfl,g5,hx⟩
        . exact .inl hs
    . cases h
  case own r o n=>
    split at h
    . rename_i ty s es hR
      cases h
      obtain⟨row,g1,g2,g5,hv⟩:=hr
      have:=hA r row _ g1 hR
      subst this
      simp only at g5
      have hlen:((es.l.drop o).take n).length=n:=by simp only[List.length_take,List.length_drop];omega
      rw[Els.take_l,Els.drop_l]at hs⊢
      rcases hv with⟨g7,a,hv,_⟩|⟨hV,cap,arr,g3,g4,g6,hv,g7⟩
      . subst g7
        rw[hv]
        have:=Qsh (P:=P) (c:=c) (w:=w) (sy:=sz) h0 (es:=(es.l.drop o).take 0) (a:=a) (cap:=0) (.inl (by simp))
        simpa using this
      . obtain⟨arr',ha',hs',hx⟩:=hm.real g1 hV
        simp only at g6 ha' hx hv
        rw[g6]at ha';cases ha'
        simp only[Bool.false_eq_true,if_false]at hx
        have hE:=Qfn (n:=n) (Qex (l:=o) hx)
        have:=Qsh (P:=P) (c:=c) (w:=w) (sy:=sy) h0 (es:=(es.l.drop o).take n) (a:=some ⟨c.ρ r,o*sy,none⟩) (cap:=cap) (by
          rcases hs with hs|hs
          . exact .inr ⟨hs,_,o*sy,arr,_,_,rfl,g6,by simpa using hE⟩
          . exact .inl hs)
        rw[hlen]at this
        rw[hv];exact this
    . cases h
theorem zaa{P:Program}{c:Ctx}{w:World}{R:Rows}{ke kx:TK}{y:D}{v:Value}{sy sz:Nat}{ys:Els}(h0:0<sz)(h:srcT R ke kx y=some (sy,ys))(hs:sy=sz\/ys.l=[])(hm:Mem c w)(hA:Q7p c R)(hr:Rep c w y v):Src P c w v ys.l sz:=by
  unfold srcT at h
  split at h
  . exact qaa h0 h hs hm hA hr
  . split at h
    . rename_i s
      cases h
      have hv:=Rep.str.1 hr
      subst hv
      have hsz:(ByteArray.mk s.toArray).size=s.length:=by simp [ByteArray.size]
      have ext: ∀k,((ByteArray.mk s.toArray).extract 0 k).data.toList=s.take k:=λk=>by
        simp [ByteArray.data_extract]
      have hf: ∀k w',(Builtin.firstCells sz k (.string ⟨s.toArray⟩)).run P w'= .ok ((s.map λb=>Value.int .u8 b.toNat).take k).toArray w':=λk w'=>by
        simp only[Builtin.firstCells,Sem.run_pure]
        congr 1
        apply Array.ext'
        simp only[Array.toList_map,ext,List.map_take]
      rcases hs with hs|hs
      . subst hs
        exact⟨s.map λb=>Value.int .u8 b.toNat,by simp [Qby,Els.len],by simp [Builtin.lenOf,Qby,Els.len,hsz],λk hk w' _=>by rw[hf];simp,Zjl s⟩
      . have:s=[]:=by simpa [Qby,Els.l] using hs
        subst this
        exact⟨[],by simp [Qby,Els.len],by simp [Builtin.lenOf,Qby,Els.len,hsz],λk hk w' _=>by rw[hf];simp,by simp [Qby,Els.l,Q2v,Q2a]⟩
    . cases h
  . cases h
def Ctx.addV(c:Ctx)(k:Nat)(row:Row):Ctx:={c with R:=λr=>if r=k then some row else c.R r,V:=λr=>r=k\/c.V r}
theorem Qlq{c:Ctx}{w:World}{k:Nat}(hk:c.R k=none)(row:Row):Q3s c w (c.addV k row) w:=by
 refine⟨rfl,Nat.le_refl _,λb hb=>⟨hb,rfl⟩,λr x hr=> ?_⟩
 have hne:r≠k:=λe=>by rw[e,hk]at hr;cases hr
 exact⟨x,by simp [Ctx.addV,hne,hr],rfl,rfl,rfl,rfl,rfl,by simp [Ctx.addV,hne],λ_ arr ha=>⟨arr,ha,rfl⟩⟩
theorem Z0t{c:Ctx}{w:World}(hm:Mem c w){k:Nat}(hk:c.R k=none){row:Row}(hb:row.box=false)(he:row.es.l=[])(h0:0<row.sz):Mem (c.addV k row) w:=by
 have hg:=Qlq (w:=w) hk row
 have inv: ∀r x,(c.addV k row).R r=some x-> ¬(c.addV k row).V r->c.R r=some x/\ ¬c.V r:=λr x hr hv=>by
   have h1: ¬r=k:=λe=>hv (.inl e)
   exact⟨by simpa [Ctx.addV,h1] using hr,λe=>hv (.inr e)⟩
 refine⟨λr x hr=> ?_,λr s x y hr hs v1 v2 h=> ?_,λb hbI=>⟨(hm.imm b hbI).1,λr x hr v=> ?_⟩,hm.top⟩
 . by_cases e:r=k
   . subst e
     simp only[Ctx.addV,if_true,Option.some.injEq]at hr
     subst hr
     exact .inl ⟨.inl rfl,hb,he,h0⟩
   . have hr':c.R r=some x:=by simpa [Ctx.addV,e] using hr
     exact Q3 hg rfl (by simp [Ctx.addV,e]) (λ_=>rfl) (hm.row r x hr')
 . obtain⟨h1,h2⟩:=inv r x hr v1
   obtain⟨h3,h4⟩:=inv s y hs v2
   exact hm.inj r s x y h1 h3 h2 h4 h
 . obtain⟨h1,h2⟩:=inv r x hr v
   exact(hm.imm b hbI).2 r x h1 h2
theorem Qi4(c:Ctx)(w:World):Q3s c w c w.drew:=⟨rfl,Nat.le_refl _,λb hb=>⟨hb,rfl⟩,λr row hr=>⟨row,hr,rfl,rfl,rfl,rfl,rfl,Iff.rfl,λ_ arr ha=>⟨arr,ha,rfl⟩⟩⟩
theorem Qkq{c:Ctx}{w:World}(h:Mem c w):Mem c w.drew:=
 ⟨λr row hr=>Q3 (Qi4 c w) rfl Iff.rfl (λ_=>rfl) (h.row r row hr),h.inj,h.imm,h.top⟩
theorem Qrr{I:Blocks}{w:World}{es ys:List (List D)}{A B C:List Value}{sz:Nat}(h1:Q1r I w es A.toArray 0 sz)(hA:A.length=es.length*sz)(h2:Q1r I w ys B.toArray 0 sz)(hB:B.length=ys.length*sz):Q1r I w (es++ys) (A++B++C).toArray 0 sz:=by
 rw[Q4y]at h1 h2⊢
 intro i hi
 by_cases hlt:i<es.length
 . have he:(es++ys).getD i []=es.getD i []:=by simp [List.getD,List.getElem?_append_left hlt]
   rw[he]
   obtain⟨g1,g2⟩:=h1 i hlt
   refine⟨g1,?_⟩
   rw[Q42]at g2⊢
   intro j hj
   obtain⟨v,hv,hp⟩:=g2 j hj
   refine⟨v,?_,hp⟩
   have hl:=(Array.getElem?_eq_some_iff.1 hv).1
   simp only[List.getElem?_toArray,List.size_toArray]at hv hl⊢
   rw[List.append_assoc,List.getElem?_append_left hl];exact hv
 . have hi':i-es.length<ys.length:=by simp at hi;omega
   have he:(es++ys).getD i []=ys.getD (i-es.length) []:=by simp [List.getD,List.getElem?_append_right (show es.length<=i by omega)]
   rw[he]
   obtain⟨g1,g2⟩:=h2 _ hi'
   refine⟨g1,?_⟩
   rw[Q42]at g2⊢
   intro j hj
   obtain⟨v,hv,hp⟩:=g2 j hj
   refine⟨v,?_,hp⟩
   have hl:=(Array.getElem?_eq_some_iff.1 hv).1
   simp only[List.getElem?_toArray,List.size_toArray]at hv hl⊢
   have e:0+i*sz+j=A.length+(0+(i-es.length)*sz+j):=by
     rw[hA,show i*sz=(es.length+(i-es.length))*sz by congr 1;omega,Nat.add_mul];omega
   rw[e,List.append_assoc,List.getElem?_append_right (by omega),List.getElem?_append_left (by omega)]
   rw[show A.length+(0+(i-es.length)*sz+j)-A.length=0+(i-es.length)*sz+j by omega]
   exact hv
theorem qU{c:Ctx}{w:World}(hm:Mem c w){r k:Nat}{row row':Row}{cur arr:Array Value}(hr:c.R r=some row)(hV: ¬c.V r)(hk:c.R k=none)(hh:w.heap[c.ρ r]? =some (.cells cur row.ty (0,0)))(hty:row'.ty=row.ty)(h0:0<row'.sz)(hb:row'.box=false)
   (hE: ∀w',(∀b,c.I b->w'.heap[b]? =w.heap[b]?)->Q1r c.I w' row'.es.l arr 0 row'.sz):
   Q3s (c.kill [r]) w ((c.kill [r]).add k row' (c.ρ r)) (w.setRow (c.ρ r) arr)/\Mem ((c.kill [r]).add k row' (c.ρ r)) (w.setRow (c.ρ r) arr):=by
 have hmk:=Zc6 (ks:=[r]) hm
 have hkk:(c.kill [r]).R k=none:=by simp [Ctx.kill,hk]
 have hno: ∀s x,(c.kill [r]).R s=some x->s≠r/\s≠k:=λs x hs=>by
   obtain⟨h1,row0,h2,_⟩:=Q3r hs
   refine⟨λe=> ?_,λe=>by rw[e,hkk]at hs;cases hs⟩
   rw[e]at h1
   have:=Q39 (r:=r) (l:=[r])
   simp [h1]at this
 have hnew:(w.setRow (c.ρ r) arr).heap[c.ρ r]? =some (.cells arr row.ty (0,0)):=setRow_heap w _ _ _ _ _ hh
 have hoth: ∀s x,(c.kill [r]).R s=some x-> ¬c.V s->(w.setRow (c.ρ r) arr).heap[c.ρ s]? =w.heap[c.ρ s]? :=λs x hs v=>setRow_other w _ _ _ λe=>by
   obtain⟨_,row0,h2,_⟩:=Q3r hs
   exact(hno s x hs).1 (hm.inj s r row0 row h2 hr v hV e)
 have hI: ∀b,c.I b->(w.setRow (c.ρ r) arr).heap[b]? =w.heap[b]? :=λb hb=>setRow_other w _ _ _ (λe=>(hm.imm b hb).2 r row hr hV e.symm)
 have hg:Q3s (c.kill [r]) w ((c.kill [r]).add k row' (c.ρ r)) (w.setRow (c.ρ r) arr):=by
   refine⟨rfl,Nat.le_refl _,λb hb=>⟨hb,hI b hb⟩,λs x hs=> ?_⟩
   obtain⟨n1,n2⟩:=hno s x hs
   exact⟨x,by simp [Ctx.add,n2,hs],rfl,rfl,rfl,rfl,by simp [Ctx.add,n2],by simp [Ctx.add,n2],λv a ha=>⟨a,(hoth s x hs v).trans ha,rfl⟩⟩
 have inv: ∀s x,((c.kill [r]).add k row' (c.ρ r)).R s=some x-> ¬((c.kill [r]).add k row' (c.ρ r)).V s->(s=k/\((c.kill [r]).add k row' (c.ρ r)).ρ s=c.ρ r)\/(s≠k/\s≠r/\((c.kill [r]).add k row' (c.ρ r)).ρ s=c.ρ s/\ ¬c.V s/\ ∃y,c.R s=some y):=λs x hs v=>by
   by_cases e:s=k
   . exact .inl ⟨e,by simp [Ctx.add,e]⟩
   . have hs':(c.kill [r]).R s=some x:=by simpa [Ctx.add,e] using hs
     obtain⟨_,y,hy,_⟩:=Q3r hs'
     have v': ¬c.V s:=λh=>v (by simp only[Ctx.add];exact⟨e,h⟩)
     exact .inr ⟨e,(hno s x hs').1,by simp [Ctx.add,e,Ctx.kill],v',y,hy⟩
 refine⟨hg,⟨λs x hs=> ?_,λs q x y hs hq v1 v2 he=> ?_,λb hbI=> ?_,by show c.top<=(w.setRow _ _).heap.size;simpa [World.setRow] using hm.top⟩⟩
 . by_cases e:s=k
   . subst e
     simp only[Ctx.add,if_true,Option.some.injEq]at hs
     subst hs
     refine .inr ⟨by simp [Ctx.add],arr,by simp only[Ctx.add,if_true];rw[hty];exact hnew,h0,?_⟩
     rw[hb]
     simp only[Bool.false_eq_true,if_false]
     exact hE _ hI
   . have hs':(c.kill [r]).R s=some x:=by simpa [Ctx.add,e] using hs
     exact Q3 hg (by simp [Ctx.add,e]) (by simp [Ctx.add,e]) (λv=>hoth s x hs' v) (hmk.row s x hs')
 . rcases inv s x hs v1 with⟨e1,p1⟩|⟨e1,p1,p2,p3,y1,p4⟩<;>rcases inv q y hq v2 with⟨e2,q1⟩|⟨e2,q1,q2,q3,y2,q4⟩
   . rw[e1,e2]
   . rw[p1,q2]at he
     exact(q1 (hm.inj q r y2 row q4 hr q3 hV he.symm)).elim
   . rw[p2,q1]at he
     exact(p1 (hm.inj s r y1 row p4 hr p3 hV he)).elim
   . rw[p2,q2]at he
     exact hm.inj s q y1 y2 p4 q4 p3 q3 he
 . refine⟨by simpa [World.setRow] using(hm.imm b hbI).1,λs x hs v=> ?_⟩
   rcases inv s x hs v with⟨e1,p1⟩|⟨e1,p1,p2,p3,y1,p4⟩
   . rw[p1];exact(hm.imm b hbI).2 r row hr hV
   . rw[p2];exact(hm.imm b hbI).2 s y1 p4 p3
def OpK(P:Program)(o:Oper)(ev:Operand->D)(R:Rows)(ks:List Nat)(val:D)(R':Rows):Prop:=
 ∀ (c:Ctx) (w:World) (a:Act),Mem c w->c.base<=w.heap.size->(∀r,c.R r=R.getD r none)->(∀x∈o.op.operands,Rep c w (ev x) (a.eval x))->
   ∀K Q,(∀v w' c',NxtK ks c w c' w'->(∀r,c'.R r=R'.getD r none)->Rep c' w' val v->K (a.put o.dst v) w')->o.wpR P a w K Q
theorem OpW.toK{P:Program}{o:Oper}{ev:Operand->D}{R:Rows}{val:D}{R':Rows}(h:OpW P o ev R val R'):OpK P o ev R [] val R':=
 λc w a hm hb hR hev K Q hK=>h c w a hm hb hR hev K Q λv w' c' hn hR' hv=>hK v w' c' hn.toK hR' hv
section
variable {P:Program} {c:Ctx} {w:World} {R:Rows} {ks:List Nat} {e sz by':Nat} {es ys:Els}
theorem Z0k{row:Row}{ρ':Nat->Nat}{V':Nat->Prop}(hR: ∀r,c.R r=R.getD r none): ∀r,(if r=R.length then some row else(c.kill ks).R r)=(Qo3 ks R 0++[some row]).getD r none:=by
 intro r
 by_cases e:r=R.length
 . subst e
   simp [List.getD,List.getElem?_append_right,Qae]
 . rw[if_neg e]
   by_cases hlt:r<R.length
   . rw[List.getD,List.getElem?_append_left (by rw[Qae];exact hlt),<-List.getD,Qoi]
     simp [Ctx.kill,hR]
   . rw[List.getD,List.getElem?_eq_none (by simp [Qae];omega)]
     simp [Ctx.kill,hR,List.getElem?_eq_none (show R.length<=r by omega)]
theorem append_empty{t tx ty:TypeId}{i:TypeInfo}{z:Value}{ux:TypeDesc}(ht:P.underlying t=some (.slice e))(hux:P.underlying tx=some ux)(hx: ∀k,ux≠ .int k)(hi:P.info? e=some i)(hz:i.zero=some z)(hsz:i.size=sz)(hby:i.bytes=by')(hzs:z.cells.size=sz)
    (hm:Mem c w) (hb:c.base<=w.heap.size) (hR: ∀r,c.R r=R.getD r none) (h0:0<sz) (hb0:0<by') (hlim:by'*(0+ys.l.length)<=140737488355328) {a:Option Addr} (hoa:okA c.top a) {vy:Value} (hs:Src P c w vy ys.l sz):
    ∃v' w' c',(Builtin.append_ #[t,tx] ty #[.slice a 0 0,vy]).run P w= .ok v' w'/\NxtK ks c w c' w'/\(∀r,c'.R r=(Qo3 ks R 0++[some (⟨false,e,sz,ys⟩:Row)]).getD r none)/\Rep c' w' (.all R.length) v':=by
  obtain⟨news,g1,g2,g3,g4⟩:=hs
  have hk:c.R R.length=none:=by rw[hR];simp [List.getD]
  have hkk:(c.kill ks).R R.length=none:=by simp [Ctx.kill,hk]
  have hmk:=Zc6 (ks:=ks) hm
  subst hsz
  by_cases hm0:ys.l.length=0
  . have hys:ys.l=[]:=List.eq_nil_of_length_eq_zero hm0
    have hn:news=[]:=List.eq_nil_of_length_eq_zero (by rw[g1,hm0];simp)
    subst hn
    rw[hys]at g2 g3
    have hrun:=Qny (P:=P) w (ty:=ty) (n:=0) (cap:=0) (a:=a) (w':=w) ht hux hx hi g2 (by simpa using g3 0 (Nat.le_refl _) w rfl) (by simp) (λb _=>by simp [storeCells]) (λ_=>rfl)
    refine⟨_,w,(c.kill ks).addV R.length ⟨false,e,i.size,ys⟩,hrun,⟨Z0t hmk hkk rfl hys h0,Qlq hkk _,Fr.refl _ w,λb hb=> .inl hb,λr row' h1 h2=> ?_⟩,Z0k (ρ':=c.ρ) (V':=c.V) hR,?_⟩
    . have hne:r≠R.length:=λe=>h2 (.inl e)
      have h1':(c.kill ks).R r=some row':=by simpa [Ctx.addV,hne] using h1
      obtain⟨_,row0,h3,_⟩:=Q3r h1'
      exact .inl ⟨⟨row0,h3⟩,λe=>h2 (.inr e),rfl⟩
    . exact⟨⟨false,e,i.size,ys⟩,by simp [Ctx.addV],rfl, .inl ⟨.inl rfl,a,rfl,hoa⟩⟩
  . have hlen:(0+ys.l.length:Nat)*i.bytes<=140737488355328:=by rw[hby,Nat.mul_comm];exact hlim
    have hl2:0+ys.l.length<=140737488355328:=Nat.le_trans (Nat.le_mul_of_pos_right _ (by rw[hby];exact hb0)) hlen
    have hml:0+ys.l.length<=maxLen:=by unfold maxLen;omega
    have hrun:=Qns (P:=P) w (ty:=ty) (n:=0) (cap:=0) (a:=a) (olds:=[]) (news:=news) ht hux hx hi hz g2
      (by have:=g3 _ (Nat.le_refl _) w.drew rfl;rwa [List.take_of_length_le (by omega)]at this)
      (by cases a with
          |none=>simp [Builtin.firstCells]
          |some a=>simpa using run_firstCells_some (P:=P) w.drew i.size 0 a 0 0 [] (by simp) (λj v h=>by simp at h)) (by omega) (by omega) (growslice_fits (by omega) hlen)
    have hge:=grownCap_ge w (0+ys.l.length) 0 e
    have hcm:grownCap w (0+ys.l.length) 0 e<=maxLen:=grownCap_le_maxLen w _ _ e hml
    generalize grownCap w (0+ys.l.length) 0 e=gc at hrun hge hcm
    have harr:(#[]++news.toArray++Builtin.zeroCells z.cells (gc-(0+ys.l.length))).size=gc*i.size:=by
      have e1:(#[]++news.toArray++Builtin.zeroCells z.cells (gc-(0+ys.l.length))).size=ys.l.length*i.size+(gc-(0+ys.l.length))*i.size:=by
        simp [size_zeroCells,hzs,g1]
      rw[e1,<-Nat.add_mul]
      congr 1;omega
    have hE: ∀(I:Blocks) (w':World),(∀b,c.I b->I b/\w'.heap[b]? =w.heap[b]?)->Q1r I w' ys.l (#[]++news.toArray++Builtin.zeroCells z.cells (gc-(0+ys.l.length))) 0 i.size:=λI w' h=>by
      have:=Qrr (I:=I) (w:=w') (es:=[]) (ys:=ys.l) (A:=[]) (B:=news) (C:=(Builtin.zeroCells z.cells (gc-(0+ys.l.length))).toList) (sz:=i.size) (by simp [Q2v,Q2a]) (by simp) (Q1m h _ _ _ _ g4) g1
      have h2:(#[]++news.toArray++Builtin.zeroCells z.cells (gc-(0+ys.l.length)))=([]++news++(Builtin.zeroCells z.cells (gc-(0+ys.l.length))).toList).toArray:=by apply Array.ext';simp
      rw[h2];simpa using this
    have hal:=Mem.alloc (w:=w.drew) (Qkq hmk) hkk ⟨false,e,i.size,ys⟩ (#[]++news.toArray++Builtin.zeroCells z.cells (gc-(0+ys.l.length))) h0 (by
      simp only[Bool.false_eq_true,if_false]
      exact hE _ _ λb hb=>⟨hb,rfl⟩)
    have hrep:=Z9x (c:=c.kill ks) (w:=w.drew) (k:=R.length) (e:=e) (sz:=i.size) (cap:=gc) (es:=ys) (arr:= #[]++news.toArray++Builtin.zeroCells z.cells (gc-(0+ys.l.length))) (by omega) hcm harr.symm
    refine⟨_,_,(c.kill ks).add R.length ⟨false,e,i.size,ys⟩ w.heap.size,hrun,⟨hal,(Qi4 _ w).trans (Q3s.alloc (w:=w.drew) (Qkq hmk) hkk _ _),?_,λb hb=> .inl hb,λr row' h1 h2=> ?_⟩,Z0k (ρ':=c.ρ) (V':=c.V) hR,by have h3:=hrep;simp only[Nat.zero_add]at h3⊢;exact h3⟩
    . exact Fr.trans (w':=w.drew) ⟨rfl,rfl,rfl,Nat.le_refl _,λ_ _ _=>rfl⟩ (Fr.alloc _ w.drew _)
    . by_cases e1:r=R.length
      . subst e1
        right;right
        simp [Ctx.add]
      . have h1':(c.kill ks).R r=some row':=by simpa [Ctx.add,e1] using h1
        obtain⟨_,row0,h3,_⟩:=Q3r h1'
        exact .inl ⟨⟨row0,h3⟩,by simpa [Ctx.add,e1,Ctx.kill] using h2,by simp [Ctx.add,e1,Ctx.kill]⟩
theorem Zgb{t tx ty:TypeId}{i:TypeInfo}{z:Value}{ux:TypeDesc}(ht:P.underlying t=some (.slice e))(hux:P.underlying tx=some ux)(hx: ∀k,ux≠ .int k)(hi:P.info? e=some i)(hz:i.zero=some z)(hsz:i.size=sz)(hby:i.bytes=by')(hzs:z.cells.size=sz)
    (hm:Mem c w) (hb:c.base<=w.heap.size) (hR: ∀r,c.R r=R.getD r none) (h0:0<sz) (hb0:0<by') (hlim:by'*(es.l.length+ys.l.length)<=140737488355328) {r:Nat} {row:Row} (q1:c.R r=some row) (hty:row.ty=e) (hV: ¬c.V r) {cap:Nat} {cur:Array Value} (h1:es.l.length<=cap) (h2:cap<=maxLen) (h3:w.heap[c.ρ r]? =some (.cells cur e (0,0))) (h4:cap*sz=cur.size) (hE0:Q1r c.I w es.l cur 0 sz) {vy:Value} (hs:Src P c w vy ys.l sz):
    ∃v' w' c',(Builtin.append_ #[t,tx] ty #[.slice (some ⟨c.ρ r,0,none⟩) es.l.length cap,vy]).run P w= .ok v' w'/\NxtK [r] c w c' w'/\(∀q,c'.R q=(Qo3 [r] R 0++[some (⟨false,e,sz,es.app ys⟩:Row)]).getD q none)/\Rep c' w' (.all R.length) v':=by
  obtain⟨news,g1,g2,g3,g4⟩:=hs
  have hk:c.R R.length=none:=by rw[hR];simp [List.getD]
  have hkk:(c.kill [r]).R R.length=none:=by simp [Ctx.kill,hk]
  have hmk:=Zc6 (ks:=[r]) hm
  subst hsz
  have hlen:(es.l.length+ys.l.length)*i.bytes<=140737488355328:=by rw[hby,Nat.mul_comm];exact hlim
  have hl2:es.l.length+ys.l.length<=140737488355328:=Nat.le_trans (Nat.le_mul_of_pos_right _ (by rw[hby];exact hb0)) hlen
  have hml:es.l.length+ys.l.length<=maxLen:=by unfold maxLen;omega
  obtain⟨olds,o1,o2,o3⟩:=Zgx hE0 h0
  by_cases hroom:es.l.length+ys.l.length<=cap
  . have hfit:es.l.length*i.size+0+news.length<=cur.size:=by rw[g1,<-h4,Nat.add_zero,<-Nat.add_mul];exact Nat.mul_le_mul_right _ hroom
    have hst:=run_storeCells_at (P:=P) (c.ρ r) (es.l.length*i.size) e news 0 cur w h3 hfit (Q1r.one g4 g1)
    simp only[Nat.add_zero]at hst hfit
    have hrun:=Qny (P:=P) w (ty:=ty) (n:=es.l.length) (cap:=cap) (a:=some ⟨c.ρ r,0,none⟩) ht hux hx hi g2 (by have:=g3 _ (Nat.le_refl _) w rfl;rwa [List.take_of_length_le (by omega)]at this) hroom (λb hb=>by cases hb;rw[Addr.add_lit,Nat.zero_add];exact hst) (λh=>by cases h)
    have hE: ∀w',(∀b,c.I b->w'.heap[b]? =w.heap[b]?)->Q1r c.I w' (es.app ys).l (cur.toList.take (es.l.length*i.size)++news++cur.toList.drop (es.l.length*i.size+news.length)).toArray 0 i.size:=λw' h=>by
      rw[Els.app_l]
      refine Qrr (A:=cur.toList.take (es.l.length*i.size)) (Q1m (λb hb=>⟨hb,h b hb⟩) _ _ _ _ ?_) (by rw[List.length_take,show cur.toList.length=cur.size from rfl];omega) (Q1m (λb hb=>⟨hb,h b hb⟩) _ _ _ _ g4) g1
      have:cur.toList.take (es.l.length*i.size)=olds:=by
        apply List.ext_getElem?
        intro j
        by_cases hj:j<olds.length
        . have:=o2 j _ (List.getElem?_eq_getElem hj)
          rw[List.getElem?_take,if_pos (by omega),List.getElem?_eq_getElem hj]
          simpa using this
        . rw[List.getElem?_eq_none (by rw[List.length_take];omega),List.getElem?_eq_none (by omega)]
      rw[this];exact o3
    obtain⟨k1,k2⟩:=qU hm (k:=R.length) (row':=⟨false,e,i.size,es.app ys⟩) q1 hV hk (by rw[hty];exact h3) hty.symm h0 rfl hE
    refine⟨_,_,_,hrun,⟨k2,k1,(Qot w _ _).mono λb _ hb=>⟨r,_,q1,hV,hb.symm⟩,λb hb=> .inl hb,λq row' p1 p2=> ?_⟩,Z0k (ρ':=c.ρ) (V':=c.V) hR,?_⟩
    . by_cases e1:q=R.length
      . subst e1
        exact .inr (.inl ⟨r,_,by simp [memB],q1,hV,by simp [Ctx.add]⟩)
      . have h1':(c.kill [r]).R q=some row':=by simpa [Ctx.add,e1] using p1
        obtain⟨_,row0,h3',_⟩:=Q3r h1'
        exact .inl ⟨⟨row0,h3'⟩,by simpa [Ctx.add,e1,Ctx.kill] using p2,by simp [Ctx.add,e1,Ctx.kill]⟩
    . refine⟨⟨false,e,i.size,es.app ys⟩,by simp [Ctx.add],rfl, .inr ⟨by simp [Ctx.add],cap,(cur.toList.take (es.l.length*i.size)++news++cur.toList.drop (es.l.length*i.size+news.length)).toArray,?_,by rw[Els.app_l,lA];exact hroom,h2,?_,?_⟩⟩
      . simp only[Ctx.add,if_true,Els.app_l,lA]
      . simp only[Ctx.add,if_true];exact setRow_heap w _ _ _ _ _ h3
      . simp only[List.size_toArray,lA,List.length_take,List.length_drop,Array.length_toList]
        rw[h4];omega
  . have hrun:=Qns (P:=P) w (ty:=ty) (n:=es.l.length) (cap:=cap) (a:=some ⟨c.ρ r,0,none⟩) (olds:=olds) (news:=news) ht hux hx hi hz g2
      (by have:=g3 _ (Nat.le_refl _) w.drew rfl;rwa [List.take_of_length_le (by omega)]at this)
      (run_firstCells_some (P:=P) w.drew i.size es.l.length _ _ cap olds o1 λj v hj=>by
        rw[zq (w:=w.drew) h3];exact o2 j v hj) (by omega) (by omega) (growslice_fits (by omega) hlen)
    have hge:=grownCap_ge w (es.l.length+ys.l.length) cap e
    have hcm:grownCap w (es.l.length+ys.l.length) cap e<=maxLen:=grownCap_le_maxLen w _ _ e hml
    generalize grownCap w (es.l.length+ys.l.length) cap e=gc at hrun hge hcm
    have harr:(olds.toArray++news.toArray++Builtin.zeroCells z.cells (gc-(es.l.length+ys.l.length))).size=gc*i.size:=by
      have e1:(olds.toArray++news.toArray++Builtin.zeroCells z.cells (gc-(es.l.length+ys.l.length))).size=es.l.length*i.size+ys.l.length*i.size+(gc-(es.l.length+ys.l.length))*i.size:=by
        simp [size_zeroCells,hzs,g1,o1]
      rw[e1,<-Nat.add_mul,<-Nat.add_mul]
      congr 1;omega
    have hE: ∀(I:Blocks) (w':World),(∀b,c.I b->I b/\w'.heap[b]? =w.heap[b]?)->Q1r I w' (es.app ys).l (olds.toArray++news.toArray++Builtin.zeroCells z.cells (gc-(es.l.length+ys.l.length))) 0 i.size:=λI w' h=>by
      rw[Els.app_l]
      have:=Qrr (I:=I) (w:=w') (es:=es.l) (ys:=ys.l) (A:=olds) (B:=news) (C:=(Builtin.zeroCells z.cells (gc-(es.l.length+ys.l.length))).toList) (sz:=i.size) (Q1m h _ _ _ _ o3) o1 (Q1m h _ _ _ _ g4) g1
      have h2:(olds.toArray++news.toArray++Builtin.zeroCells z.cells (gc-(es.l.length+ys.l.length)))=(olds++news++(Builtin.zeroCells z.cells (gc-(es.l.length+ys.l.length))).toList).toArray:=by apply Array.ext';simp
      rw[h2];exact this
    have hal:=Mem.alloc (w:=w.drew) (Qkq hmk) hkk ⟨false,e,i.size,es.app ys⟩ (olds.toArray++news.toArray++Builtin.zeroCells z.cells (gc-(es.l.length+ys.l.length))) h0 (by
      simp only[Bool.false_eq_true,if_false]
      exact hE _ _ λb hb=>⟨hb,rfl⟩)
    have hrep:=Z9x (c:=c.kill [r]) (w:=w.drew) (k:=R.length) (e:=e) (sz:=i.size) (cap:=gc) (es:=es.app ys) (arr:=olds.toArray++news.toArray++Builtin.zeroCells z.cells (gc-(es.l.length+ys.l.length))) (by rw[Els.app_l,lA];omega) hcm harr.symm
    refine⟨_,_,(c.kill [r]).add R.length ⟨false,e,i.size,es.app ys⟩ w.heap.size,hrun,⟨hal,(Qi4 _ w).trans (Q3s.alloc (w:=w.drew) (Qkq hmk) hkk _ _),?_,λb hb=> .inl hb,λq row' p1 p2=> ?_⟩,Z0k (ρ':=c.ρ) (V':=c.V) hR,by rw[Els.app_l,lA]at hrep;exact hrep⟩
    . exact Fr.trans (w':=w.drew) ⟨rfl,rfl,rfl,Nat.le_refl _,λ_ _ _=>rfl⟩ (Fr.alloc _ w.drew _)
    . by_cases e1:q=R.length
      . subst e1
        right;right
        simp [Ctx.add]
      . have h1':(c.kill [r]).R q=some row':=by simpa [Ctx.add,e1] using p1
        obtain⟨_,row0,h3',_⟩:=Q3r h1'
        exact .inl ⟨⟨row0,h3'⟩,by simpa [Ctx.add,e1,Ctx.kill] using p2,by simp [Ctx.add,e1,Ctx.kill]⟩
theorem Zml{t tx ty:TypeId}{i:TypeInfo}{z:Value}{ux:TypeDesc}(ht:P.underlying t=some (.slice e))(hux:P.underlying tx=some ux)(hx: ∀k,ux≠ .int k)(hi:P.info? e=some i)(hz:i.zero=some z)(hsz:i.size=sz)(hby:i.bytes=by')(hzs:z.cells.size=sz)
   (hm:Mem c w) (hb:c.base<=w.heap.size) (hR: ∀r,c.R r=R.getD r none) (h0:0<sz) (hb0:0<by') (hlim:by'*(es.l.length+ys.l.length)<=140737488355328) {r:Nat} (hr:R.getD r none=some ⟨false,e,sz,es⟩) {vx vy:Value} (hvx:Rep c w (.all r) vx) (hs:Src P c w vy ys.l sz):
   ∃v' w' c',(Builtin.append_ #[t,tx] ty #[vx,vy]).run P w= .ok v' w'/\NxtK [r] c w c' w'/\(∀q,c'.R q=(Qo3 [r] R 0++[some (⟨false,e,sz,es.app ys⟩:Row)]).getD q none)/\Rep c' w' (.all R.length) v':=by
 obtain⟨row,q1,q2,hv⟩:=hvx
 have hrow:row=⟨false,e,sz,es⟩:=by rw[hR,hr]at q1;exact(Option.some.inj q1).symm
 subst hrow
 rcases hv with⟨hV,a,hv,hoa⟩|⟨hV,cap,cur,hv,h1,h2,h3,h4⟩
 . have he:=(hm.virt q1 hV).2.1
   simp only at he
   subst hv
   have hl:(es.app ys).l=ys.l:=by rw[Els.app_l,he];rfl
   exact append_empty (ks:=[r]) (ys:=es.app ys) ht hux hx hi hz hsz hby hzs hm hb hR h0 hb0 (by rw[hl];rw[he]at hlim;simpa using hlim) hoa (by rw[hl];exact hs)
 . have hl:=hm.real q1 hV
   obtain⟨cur',ha',_,hE0⟩:=hl
   simp only at h1 h3 h4 hv ha'
   subst hv
   rw[h3]at ha';cases ha'
   simp only[Bool.false_eq_true,if_false]at hE0
   exact Zgb ht hux hx hi hz hsz hby hzs hm hb hR h0 hb0 hlim q1 rfl hV h1 h2 h3 h4 hE0 hs
theorem Zof{n:Nat}{t tx ty:TypeId}{i:TypeInfo}{z:Value}{ux:TypeDesc}(ht:P.underlying t=some (.slice e))(hux:P.underlying tx=some ux)(hx: ∀k,ux≠ .int k)(hi:P.info? e=some i)(hz:i.zero=some z)(hsz:i.size=sz)(hby:i.bytes=by')(hzs:z.cells.size=sz)
   (hm:Mem c w) (hb:c.base<=w.heap.size) (hR: ∀r,c.R r=R.getD r none) (h0:0<sz) (hb0:0<by') (hlim:by'*((es.take n).l.length+ys.l.length)<=140737488355328) {r:Nat} (hr:R.getD r none=some ⟨false,e,sz,es⟩) {vx vy:Value} (hvx:Rep c w (.own r 0 n) vx) (hs:Src P c w vy ys.l sz):
   ∃v' w' c',(Builtin.append_ #[t,tx] ty #[vx,vy]).run P w= .ok v' w'/\NxtK [r] c w c' w'/\(∀q,c'.R q=(Qo3 [r] R 0++[some (⟨false,e,sz,(es.take n).app ys⟩:Row)]).getD q none)/\Rep c' w' (.all R.length) v':=by
 obtain⟨row,q1,q2,hle,hv⟩:=hvx
 have hrow:row=⟨false,e,sz,es⟩:=by rw[hR,hr]at q1;exact(Option.some.inj q1).symm
 subst hrow
 have hln:(es.take n).l.length=n:=by rw[Els.take_l,List.length_take];simp only at hle;omega
 rcases hv with⟨h0',a,hv,hoa⟩|⟨hV,cap,cur,h1,h2,h3,hv,h4⟩
 . subst hv;subst h0'
   have hz0:(es.take 0).l=[]:=by rw[Els.take_l];rfl
   have hl:((es.take 0).app ys).l=ys.l:=by rw[Els.app_l,hz0];rfl
   have g:Q3s c w {c with top:=w.heap.size} w:=⟨rfl,hm.top,λb hb=>⟨hb,rfl⟩,λr row hr=>⟨row,hr,rfl,rfl,rfl,rfl,rfl,Iff.rfl,λnv arr ha=>⟨arr,ha,rfl⟩⟩⟩
   have hm1:Mem {c with top:=w.heap.size} w:=⟨λr row hr=>Q3 g rfl Iff.rfl (λ_=>rfl) (hm.row r row hr),hm.inj,hm.imm,Nat.le_refl _⟩
   have ho1:okA w.heap.size a:=by
     rcases hoa with h|⟨hV,h⟩
     . exact h.mono hm.top
     . exact λx hx=>by rw[h x hx];exact hm.lt q1 hV
   obtain⟨v',w',c',p1,p2,p3,p4⟩:=append_empty (c:={c with top:=w.heap.size}) (ks:=[r]) (ys:=(es.take 0).app ys) ht hux hx hi hz hsz hby hzs hm1 hb hR h0 hb0 (by rw[hl];rw[hz0]at hlim;simpa using hlim) ho1 (by rw[hl];exact hs)
   refine⟨v',w',c',p1,⟨p2.mem,?_,p2.fr,p2.imm,p2.rho⟩,p3,p4⟩
   have g':Q3s (c.kill [r]) w (Ctx.kill {c with top:=w.heap.size} [r]) w:=⟨rfl,hm.top,λb hb=>⟨hb,rfl⟩,λr row hr=>⟨row,hr,rfl,rfl,rfl,rfl,rfl,Iff.rfl,λnv arr ha=>⟨arr,ha,rfl⟩⟩⟩
   exact g'.trans p2.grows
 . obtain⟨cur',ha',_,hE0⟩:=hm.real q1 hV
   simp only at h3 h4 hv ha'
   rw[h3]at ha';cases ha'
   simp only[Bool.false_eq_true,if_false]at hE0
   have hE1:Q1r c.I w (es.take n).l cur 0 sz:=by rw[Els.take_l];exact Qfn hE0
   rw[hv,show((0:Nat)*sz)=0 from Nat.zero_mul _]
   have:=Zgb (ty:=ty) (es:=es.take n) (cap:=cap) ht hux hx hi hz hsz hby hzs hm hb hR h0 hb0 hlim q1 rfl hV (by rw[hln];exact h1) h2 h3 (by rw[<-h4,Nat.zero_add]) hE1 hs
   rw[hln]at this
   exact this
end
theorem Zas{E:Els}(h:Zju E=true):E.l=[]:=by
 unfold Zju at h
 split at h
 . rfl
 . cases h
theorem Zl{P:Program}{T:Tab}(hT:Q52 P T){M:Nat}{t tx ty:TypeId}{x y:D}{R:Rows}{K:List Nat->D->Rows->Prop}(h:Zok T M t tx x y R K):
    ∃ ks R',K ks (.all R.length) R'/\(∀k,memB k ks=true->M<=k)/\ ∀c w vx vy,Mem c w->c.base<=w.heap.size->(∀r,c.R r=R.getD r none)->Rep c w x vx->Rep c w y vy->
      ∃v' w' c',(Builtin.append_ #[t,tx] ty #[vx,vy]).run P w= .ok v' w'/\NxtK ks c w c' w'/\(∀r,c'.R r=R'.getD r none)/\Rep c' w' (.all R.length) v':=by
  unfold Zok at h
  split at h
  . rename_i e esz _ _ _ _ _ ht
    have hk:=Q23 hT ht
    simp only at hk
    split at h
    . rename_i ke sz by' cs z q kx _ _ _ _ _ he htx
      obtain⟨i,u,hi,hu,hzz,hs,hb,hc,hzero⟩:=Qgk hT he
      have hkx:=Q23 hT htx
      split at h
      . rename_i sy ys hsrc
        simp only[Q08,aE,Bool.or_eq_true]at h
        obtain⟨⟨⟨⟨h0,h1⟩,h2,h3⟩,h4,h5⟩,h⟩:=h
        have h0:0<sz:=lE h0
        have hb0:0<by':=lE h4
        have h2:=bE h2
        have h5:sy=sz\/ys.l=[]:=h5.imp bE Zas
        have hus:u.cells.size=sz:=by have:=Qe0 hzz;simp at this;omega
        obtain⟨ux,hux,hnx⟩: ∃ux,P.underlying tx=some ux/\ ∀k,ux≠ .int k:=by
          unfold srcT at hsrc
          split at hsrc
          . simp only at hkx;exact⟨_,hkx.1,λk e=>by cases e⟩
          . simp only at hkx;exact⟨_,hkx,λk e=>by cases e⟩
          . cases hsrc
        have hsrc': ∀(c:Ctx) (w:World) (vy:Value),Mem c w->(∀r,c.R r=R.getD r none)->Rep c w y vy->Src P c w vy ys.l sz:=λc w vy hm hR hy=>zaa h0 hsrc h5 hm (λr row row' g1 g2=>by rw[hR,g2]at g1;exact(Option.some.inj g1).symm) hy
        cases x<;>simp only at h
        case nils=>
          simp only[Z4o,Q08,decide_eq_true_eq,Q1s,<-Els.len_l]at h
          refine⟨_,_,h.2,λk hk=>by simp [memB]at hk,λc w vx vy hm hb' hR hx hy=> ?_⟩
          rw[show vx=_ from hx]
          have hl:((Els.gen []).app ys).l=ys.l:=by rw[Els.app_l];rfl
          exact append_empty (ks:=[]) (ys:=(Els.gen []).app ys) hk.1 hux hnx hi hu hs hb hus hm hb' hR h0 hb0 (by rw[hl];have:=h.1;simpa [Els.l] using this) Qq6 (by rw[hl];exact hsrc' c w vy hm hR hy)
        case emp=>
          simp only[Z4o,Q08,decide_eq_true_eq,Q1s,<-Els.len_l]at h
          refine⟨_,_,h.2,λk hk=>by simp [memB]at hk,λc w vx vy hm hb' hR hx hy=> ?_⟩
          obtain⟨a,hx,hoa⟩:=hx
          rw[hx]
          have hl:((Els.gen []).app ys).l=ys.l:=by rw[Els.app_l];rfl
          exact append_empty (ks:=[]) (ys:=(Els.gen []).app ys) hk.1 hux hnx hi hu hs hb hus hm hb' hR h0 hb0 (by rw[hl];have:=h.1;simpa [Els.l] using this) hoa (by rw[hl];exact hsrc' c w vy hm hR hy)
        case all r=>
          split at h
          . rename_i ty' s es hr
            simp only[aE,Z4o,Q08,decide_eq_true_eq,Q1s,<-Els.len_l]at h
            obtain⟨⟨⟨g1,g2⟩,g3⟩,g5,g6⟩:=h
            have g1:=bE g1
            have g2:=bE g2
            subst g1;subst g2
            refine⟨_,_,g6,λk hk=> ?_,λc w vx vy hm hb' hR hx hy=> ?_⟩
            . have:=Q39.1 hk
              simp at this
              rw[this];exact lE g3
            . exact Zml hk.1 hux hnx hi hu hs hb hus hm hb' hR h0 hb0 g5 hr hx (hsrc' c w vy hm hR hy)
          . exact h.elim
        case own r o n=>
          split at h
          . rename_i ty' s es hr
            simp only[aE,Z4o,Q08,decide_eq_true_eq,Q1s,<-Els.len_l]at h
            obtain⟨⟨⟨g1,g2⟩,g3,g4⟩,g5,g6⟩:=h
            have g1:=bE g1
            have g2:=bE g2
            have g4:=bE g4
            subst g1;subst g2;subst g4
            refine⟨_,_,g6,λk hk=> ?_,λc w vx vy hm hb' hR hx hy=> ?_⟩
            . have:=Q39.1 hk
              simp at this
              rw[this];exact lE g3
            . exact Zof hk.1 hux hnx hi hu hs hb hus hm hb' hR h0 hb0 g5 hr hx (hsrc' c w vy hm hR hy)
          . exact h.elim
      . exact h.elim
    . exact h.elim
  . exact h.elim
