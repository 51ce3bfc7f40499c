import Derived.Test.YthjfindbamdacaaGreatDoorPostPushesFo
import Derived.Laws.Append
import Derived.Laws.CopyRow
import Derived.Laws.AppendOwn
open List renaming eq_nil_of_length_eq_zero->fO,map_cons->fQ,append_assoc->eZ,getElem?_take->aU,getElem?_drop->fS,getElem?_toArray->aY,getD->aK,length_take->bD,length_drop->bF,getElem?_append_left->aZ,size_toArray->bA,getElem?_append_right->bB,getElem?_eq_none->aM,take_of_length_le->fM,getElem?_eq_getElem->cG,range'->bK,mem_of_getElem?->fV,mem_of_mem_take->cR,mem_of_mem_drop->cS,mem_cons->cO,mem_append->bX
open Bool renaming false_eq_true->aN
open Option renaming map_eq_some_iff->fP
open Nat renaming add_zero->bG,succ_mul->aW,mul_le_mul_right->aV,zero_add->aX,mul_comm->fT,le_refl->aO,add_mul->bC,le_trans->bH,le_mul_of_pos_right->fU
open Array renaming ext'->fR
set_option linter.all false
namespace Go.GD
open Go
section
variable {c:Ctx} {w:World} {ks:List Nat}
theorem Q4d(ks:List Nat)(row:Row):(row.kill ks).box=row.box/\(row.kill ks).ty=row.ty/\(row.kill ks).sz=row.sz/\(row.kill ks).es.l.length=row.es.l.length:=by
 unfold Row.kill;split<;>exact⟨rfl,rfl,rfl,rfl⟩
theorem Quh:∀{e:List D},(D.kills ks e).length=e.length
 |[]=>rfl
 |d::l=>by simp[D.kills,Quh (e:=l)]
theorem Z44{d:D}{v:Value}(hne:∀f cs,d≠.clo f cs)(h:CRep c w d v):CRep (c.kill ks) w (d.kill1 ks) v:=by
 have key:∀r row,memB r ks=false->c.R r=some row->(c.kill ks).R r=some (row.kill ks):=λr row hr hrow=>by simp[Ctx.kill,hr,hrow]
 have h1:=CRep.one h
 cases d with
 |all r=>
  simp only[D.kill1]
  cases hr:memB r ks with
  |true=>exact h1
  |false=>
   obtain⟨row,g1,g2,g3⟩:=h
   obtain⟨s1,s2,s3,s4⟩:=Q4d ks row
   exact⟨_,key r row hr g1,s1.trans g2,by rw[s2,s3,s4];exact g3⟩
 |own r o n=>
  simp only[D.kill1]
  cases hr:memB r ks with
  |true=>exact h1
  |false=>
   obtain⟨row,g1,g2,g3,g4⟩:=h
   obtain⟨s1,s2,s3,s4⟩:=Q4d ks row
   exact⟨_,key r row hr g1,s1.trans g2,by rw[s4];exact g3,by rw[s2,s3];exact g4⟩
 |ptr r i off=>
  simp only[D.kill1]
  cases hr:memB r ks with
  |true=>exact h1
  |false=>
   obtain⟨row,g1,g2,g3,g4⟩:=h
   obtain⟨s1,s2,s3,s4⟩:=Q4d ks row
   exact⟨_,key r row hr g1,g2,by rw[s4];exact g3,by rw[s3];exact g4⟩
 |pa r i off len k n=>
  simp only[D.kill1]
  cases hr:memB r ks with
  |true=>exact h1
  |false=>
   obtain⟨g0,row,g1,g2,g3,g4⟩:=h
   obtain⟨s1,s2,s3,s4⟩:=Q4d ks row
   exact⟨g0,_,key r row hr g1,g2,by rw[s4];exact g3,by rw[s3];exact g4⟩
 |selfp r=>
  simp only[D.kill1]
  cases hr:memB r ks with
  |true=>exact h1
  |false=>
   rcases h with h|⟨row,g1,g2,g3,g4⟩
   ·exact .inl h
   ·obtain⟨s1,s2,s3,s4⟩:=Q4d ks row
    exact .inr ⟨_,key r row hr g1,g2,by rw[s4];exact g3,by rw[s3];exact g4⟩
 |clo f cs=>exact absurd rfl (hne f cs)
 |_=>exact h
theorem xm{d:D}(hne:∀f cs,d≠.clo f cs)(h:∀r∈Q7b d,memB r ks=false):d.kill1 ks=d:=by
 cases d<;>first|rfl|(simp only[D.kill1];rw[h _ (by simp[Q7b])])|exact absurd rfl (hne _ _)
theorem Qqv{d:D}{v:Value}(h:CRep c w d v):CRep (c.kill ks) w (d.kill1 ks) v:=by
 by_cases e:∃g cs,d=.clo g cs
 ·obtain⟨g,cs,rfl⟩:=e
  have h1:=CRep.one h
  simp only[D.kill1]
  cases hd:disB (capL cs) ks with
  |false=>exact h1
  |true=>
   obtain⟨us,hv,hu⟩:=h
   exact⟨us,hv,Qy7 (c:=c) (w:=w) (c':=c.kill ks) (w':=w) (S:=λr=>memB r ks=false) (λd v q1 q2 q3=>by have:=Z44 (ks:=ks) q1 q3;rwa [xm q1 q2]at this) (λ_ hb=>⟨hb,rfl⟩) (λr hr=>by
    have:=Qwr.1 hd r hr
    cases hm:memB r ks with
    |false=>rfl
    |true=>exact(this (Q2w.1 hm)).elim) hu⟩
 ·exact Z44 (λf cs e'=>e ⟨f,cs,e'⟩) h
theorem Z87:∀{ds:List D} {vs:List Value},Q3l c w ds vs->Q3l (c.kill ks) w (D.kills ks ds) vs
 |[],[],_=>trivial
 |_::_,_::_,h=>⟨Qqv h.1,Z87 h.2⟩
 |[],_::_,h=>h.elim
 |_::_,[],h=>h.elim
theorem Zez{d:D}{v:Value}(h:VRep c w d v):VRep (c.kill ks) w (d.kill ks) v:=by
 cases d with
 |agg cs=>obtain⟨vs,hv,hr⟩:=h;exact⟨vs,hv,Z87 hr⟩
 |_=>
  have:=Qqv (ks:=ks) (VRep.toC (λcs e=>by cases e) h)
  exact VRep.ofC this
theorem Z9b:∀{ds:List D} {vs:List Value},Q6t c w ds vs->Q6t (c.kill ks) w (D.killT ks ds) vs
 |[],[],_=>trivial
 |_::_,_::_,h=>⟨Zez h.1,Z9b h.2⟩
 |[],_::_,h=>h.elim
 |_::_,[],h=>h.elim
theorem Qxa{d:D}{v:Value}(h:Rep c w d v):Rep (c.kill ks) w (d.killV ks) v:=by
 cases d with
 |tup ds=>obtain⟨vs,hv,hr⟩:=h;exact⟨vs,hv,Z9b hr⟩
 |dead=>trivial
 |_=>
  have:=Zez (ks:=ks) (Rep.toV (λds e=>by cases e) (λe=>by cases e) h)
  exact Rep.ofV this
theorem Z3v:∀{ds:List D} {arr:Array Value} {off:Nat},Q3u c w ds arr off->Q3u (c.kill ks) w (D.kills ks ds) arr off
 |[],_,_,_=>trivial
 |_::_,_,_,⟨⟨v,hv,h1⟩,h2⟩=>⟨⟨v,hv,Qqv h1⟩,Z3v h2⟩
theorem Zg8{r:Nat}{row:Row}(h:Qqp c w r row):Qqp (c.kill ks) w r (row.kill ks):=by
 obtain⟨s1,s2,s3,s4⟩:=Q4d ks row
 rcases h with⟨h0,h1,h2,h3⟩|⟨h0,arr,ha,hs,hx⟩
 ·refine .inl ⟨h0,s1.trans h1,?_,by rw[s3];exact h3⟩
  rw[h2]at s4;exact fO s4
 ·refine .inr ⟨h0,arr,by rw[s2];exact ha,by rw[s3];exact hs,?_⟩
  rw[s1,s3]
  split
  ·rename_i hb
   simp only[hb,if_true]at hx
   obtain⟨e,k1,k2,k3,k4⟩:=hx
   obtain⟨box,ty,sz,es⟩:=row
   simp only at hb k1 k2 k3 k4
   subst hb;subst k1
   exact⟨D.kills ks e,rfl,by rw[Quh];exact k2,k3,Z3v k4⟩
  ·rename_i hb
   simp only[hb,aN,if_false]at hx
   have he:(row.kill ks).es=row.es:=by
    unfold Row.kill
    split
    ·simp at hb
    ·rfl
   rw[he];exact hx
theorem Q3g{r:Nat}{x:Row}(h:(c.kill ks).R r=some x):memB r ks=false/\∃row,c.R r=some row/\x=row.kill ks:=by
 simp only[Ctx.kill]at h
 cases hb:memB r ks with
 |true=>rw[hb]at h;simp at h
 |false=>
  rw[hb]at h
  simp only[aN,if_false,fP]at h
  obtain⟨row,h1,h2⟩:=h
  exact⟨rfl,row,h1,h2.symm⟩
theorem Z6f(hm:Mem c w):Mem (c.kill ks) w:=by
 refine⟨λr x hx=>?_,λr s x y hx hy v1 v2 he=>?_,λb hb=>⟨(hm.imm b hb).1,λr x hx v=>?_⟩,hm.top,hm.tab⟩
 ·obtain⟨_,row,h1,rfl⟩:=Q3g hx
  exact Zg8 (hm.row r row h1)
 ·obtain⟨_,row,h1,_⟩:=Q3g hx
  obtain⟨_,row',h2,_⟩:=Q3g hy
  exact hm.inj r s row row' h1 h2 v1 v2 he
 ·obtain⟨_,row,h1,_⟩:=Q3g hx
  exact(hm.imm b hb).2 r row h1 v
end
theorem Zg5:∀{l:List Nat},disB l []=true
 |[]=>rfl
 |x::l=>by simp only[disB,memB];exact Zg5
theorem Z0g(d:D):d.kill1 []=d:=by
 cases d with
 |clo f cs=>simp only[D.kill1,Zg5]
 |_=>rfl
theorem Qz3:∀{ds:List D},D.kills [] ds=ds
 |[]=>rfl
 |d::l=>by simp only[D.kills,Z0g,Qz3 (ds:=l)]
theorem Qz0(row:Row):row.kill []=row:=by
 unfold Row.kill;split
 ·simp[Qz3]
 ·rfl
theorem vG(c:Ctx):c.kill []=c:=by
 obtain⟨ρ,R,V,I,base,top,X⟩:=c
 simp only[Ctx.kill,memB,aN,if_false]
 congr 1
 funext r
 cases R r<;>simp[Qz0]
theorem NxtW.toK{c c':Ctx}{w w':World}(h:NxtW c w c' w'):NxtK [] c w c' w':=
 ⟨h.mem,by rw[vG];exact h.grows,h.fr,λb hb=>(h.imm b hb).imp id .inr,λr row' h1 h2=>(h.rho r row' h1 h2).imp id .inr⟩
theorem Qmk{ks:List Nat}:∀{R:Rows} {i r:Nat},(Ql2 ks R i).getD r none=if memB (i+r) ks=true then none else(R.getD r none).map (Row.kill ks)
 |[],i,r=>by simp[Ql2]
 |x::l,i,0=>by
  simp only[Ql2,bG]
  cases memB i ks<;>cases x<;>simp
 |x::l,i,r+1=>by
  have:=Qmk (ks:=ks) (R:=l) (i:=i+1) (r:=r)
  rw[show i+1+r=i+(r+1) by omega]at this
  simpa[Ql2]using this
theorem Q8t{ks:List Nat}:∀{R:Rows} {i:Nat},(Ql2 ks R i).length=R.length
 |[],_=>rfl
 |x::l,i=>by simp[Ql2,Q8t (R:=l)]
def Q8x(ks:List Nat)(env:List (Nat×D)):List (Nat×D):=env.map λx=>(x.1,x.2.killV ks)
theorem Qfp{ks:List Nat}:∀{env:List (Nat×D)} {K:List (Nat×D)->Prop},Z8g ks env K↔K (Q8x ks env)
 |[],_=>Iff.rfl
 |(t,d)::l,K=>by
  simp only[Z8g,D.force_iff]
  rw[Qfp (env:=l) (K:=λl=>K ((t,d.killV ks)::l))]
  rfl
theorem Q8j{ks:List Nat}:∀{env:List (Nat×D)} {t:Nat},look (Q8x ks env) t=(look env t).killV ks
 |[],_=>rfl
 |(u,d)::l,t=>by
  simp only[Q8x,fQ,look]
  cases Nat.beq u t with
  |true=>rfl
  |false=>exact Q8j (env:=l)
theorem Qkh{P:Program}(w:World){t tx ty e:TypeId}{i:TypeInfo}{ux:TypeDesc}(ht:P.underlying t=some (.slice e))(hux:P.underlying tx=some ux)(hx:∀k,ux≠.int k)(hi:P.info? e=some i)
 {a:Option Addr} {n cap m:Nat} {x:Value} {news:List Value} (hl:(Builtin.lenOf x).run P w=.ok m w) (hf:(Builtin.firstCells i.size m x).run P w=.ok news.toArray w) (hroom:n+m<=cap) {w':World}
 (hst:∀b,a=some b->(storeCells (b.add (n*i.size)) news).run P w=.ok () w') (hno:a=none->w'=w):
 (Builtin.append_ #[t,tx] ty #[.slice a n cap,x]).run P w=.ok (.slice a (n+m) cap) w':=by
 have hz:(match ux with|.int _=>true|_=>false)=false:=by
  cases ux<;>first|rfl|exact absurd rfl (hx _)
 cases a with
 |none=>
  have:=hno rfl
  subst this
  simp[Builtin.append_,run_underlying ht,run_underlying hux,hz,sizeOf,typeInfo,hi,hl,hroom,hf]
 |some b=>simp[Builtin.append_,run_underlying ht,run_underlying hux,hz,sizeOf,typeInfo,hi,hl,hroom,hf,hst b rfl]
theorem Qkp{P:Program}(w:World){t tx ty e:TypeId}{i:TypeInfo}{z:Value}{ux:TypeDesc}(ht:P.underlying t=some (.slice e))(hux:P.underlying tx=some ux)(hx:∀k,ux≠.int k)(hi:P.info? e=some i)(hz:i.zero=some z)
 {a:Option Addr} {n cap m:Nat} {x:Value} {olds news:List Value} (hl:(Builtin.lenOf x).run P w=.ok m w) (hf:(Builtin.firstCells i.size m x).run P w.drew=.ok news.toArray w.drew) (hfo:(Builtin.firstCells i.size n (.slice a n cap)).run P w.drew=.ok olds.toArray w.drew)
 (hg:cap<n+m) (h63:((n+m:Nat):Int)<=9223372036854775807) (hfit:Builtin.nextslicecap (n+m) cap*i.bytes<=281474976710656):
 (Builtin.append_ #[t,tx] ty #[.slice a n cap,x]).run P w=.ok (.slice (some ⟨w.heap.size,0,none⟩) (n+m) (grownCap w (n+m) cap e))
  (w.drew.alloc (.cells (olds.toArray++news.toArray++Builtin.zeroCells z.cells (grownCap w (n+m) cap e-(n+m))) e)):=by
 have hn:¬(n+m<=cap):=by omega
 have h63':¬(9223372036854775807<((n:Int)+(m:Int))):=by omega
 have h48':¬(281474976710656<Builtin.nextslicecap (n+m) cap*i.bytes):=by omega
 simp[Builtin.append_,run_underlying ht,run_underlying hux,sizeOf,typeInfo,zeroValue,hi,hz,hl,hn,h63',h48',Question.forced,hf,hfo,newRow,grownCap]
 congr 2
 apply fR
 simp[eZ]
theorem zm{w:World}{b o:Nat}{arr:Array Value}{ty:TypeId}{fz:Nat×Nat}(h:w.heap[b]?=some (.cells arr ty fz))(j:Nat):w.cell? ((⟨b,o,none⟩:Addr).add j)=arr[o+j]? :=by
 rw[Qez]
 unfold World.cell?
 simp[h]
theorem Z9r{I:Blocks}{w:World}{es:List (List D)}{arr:Array Value}{off sz:Nat}(h:Q18 I w es arr off sz)(h0:0<sz):∃news:List Value,news.length=es.length*sz/\(∀j u,news[j]?=some u->arr[off+j]?=some u)/\Q18 I w es news.toArray 0 sz:=by
 have hsz:es.length*sz<=arr.size-off:=by
  by_cases he:es.length=0
  ·rw[he];omega
  ·obtain⟨h1,h2⟩:=Q4e.1 h (es.length-1) (by omega)
   obtain⟨v,hv,_⟩:=Q3n.1 h2 (sz-1) (by omega)
   have hlt:=(Array.getElem?_eq_some_iff.1 hv).1
   have:es.length*sz=(es.length-1)*sz+sz:=by
    rw[show es.length*sz=(es.length-1+1)*sz by congr 1;omega,aW]
   omega
 refine⟨(arr.toList.drop off).take (es.length*sz),by simp;omega,λj u hj=>?_,?_⟩
 ·rw[aU]at hj
  split at hj
  ·rw[fS]at hj
   simpa using hj
  ·cases hj
 ·rw[Q4e]at h⊢
  intro i hi
  obtain⟨h1,h2⟩:=h i hi
  refine⟨h1,?_⟩
  rw[Q3n]at h2⊢
  intro j hj
  obtain⟨v,hv,hp⟩:=h2 j hj
  refine⟨v,?_,hp⟩
  have hlt:i*sz+j<es.length*sz:=by
   have:=aV sz (show i+1<=es.length by omega)
   rw[aW]at this
   omega
  simp only[aX,aY]
  rw[aU,if_pos hlt,fS,<-hv]
  simp[Nat.add_assoc]
theorem Q18.one{I:Blocks}{w:World}{es:List (List D)}{news:List Value}{sz:Nat}(h:Q18 I w es news.toArray 0 sz)(hl:news.length=es.length*sz):∀u∈news,u.oneCell'=true:=by
 intro u hu
 obtain⟨j,hj⟩:=List.getElem?_of_mem hu
 have hlt:=(List.getElem?_eq_some_iff.1 hj).1
 have h0:0<sz:=by
  rcases Nat.eq_zero_or_pos sz with h0|h0
  ·subst h0;simp at hl;rw[hl]at hlt;simp at hlt
  ·exact h0
 have hi:j/sz<es.length:=by rw[Nat.div_lt_iff_lt_mul h0];omega
 obtain⟨h1,h2⟩:=Q4e.1 h (j/sz) hi
 obtain⟨v,hv,hp⟩:=Q3n.1 h2 (j%sz) (by rw[h1];exact Nat.mod_lt _ h0)
 have e:0+j/sz*sz+j%sz=j:=by rw[aX,fT];exact Nat.div_add_mod j sz
 rw[e,aY,hj]at hv
 cases hv
 exact PRep.one hp
theorem Zd7{I:Blocks}{w:World}(s:List UInt8):Q18 I w (Els.ints .u8 (Qa2 s)).l (s.map λb=>Value.int .u8 b.toNat).toArray 0 1:=by
 rw[Q4e]
 intro i hi
 have hi':i<s.length:=by simpa[Qa2,Els.l]using hi
 have he:(Els.ints .u8 (Qa2 s)).l.getD i []=[.int .u8 s[i].toNat]:=by simp[Qa2,Els.l,aK,hi']
 rw[he]
 refine⟨rfl,?_⟩
 simp only[Q7s,Q63,Q48,Q5k,Q5p,Q47,Q46,Q5x,Q9r,Q70,Q71,Q77,Qam,Q58,Q53,Q5,Q78,Q7,and_true]
 exact⟨_,by simp[hi'],rfl⟩
def Src(P:Program)(c:Ctx)(w:World)(v:Value)(ys:List (List D))(sz:Nat):Prop:=
 ∃news:List Value,news.length=ys.length*sz/\(Builtin.lenOf v).run P w=.ok ys.length w/\(∀k,k<=ys.length->∀w',w'.heap=w.heap->(Builtin.firstCells sz k v).run P w'=.ok (news.take (k*sz)).toArray w')/\Q18 c.I w ys news.toArray 0 sz
theorem Qp2{P:Program}{c:Ctx}{w:World}{sz sy:Nat}(h0:0<sz){es:List (List D)}{a:Option Addr}{cap:Nat}(hes:es=[]\/sy=sz/\∃b off arr ty fz,a=some ⟨b,off,none⟩/\w.heap[b]?=some (.cells arr ty fz)/\Q18 c.I w es arr off sy):
 Src P c w (.slice a es.length cap) es sz:=by
 rcases hes with hes|⟨hss,b,off,arr,ty,fz,ha,hh,hE⟩
 ·subst hes
  refine⟨[],by simp,by simp[Builtin.lenOf],λk hk w' _=>?_,by simp[Q2i,Q1o]⟩
  have hk0:k=0:=by simpa using hk
  subst hk0
  cases a with
  |none=>simp[Builtin.firstCells]
  |some a=>
   have:=run_firstCells_some (P:=P) w' sz 0 a 0 cap [] (by simp) (λj v h=>by simp at h)
   simpa using this
 ·subst hss
  obtain⟨news,g1,g2,g3⟩:=Z9r hE h0
  refine⟨news,g1,by simp[Builtin.lenOf],λk hk w' hw'=>?_,g3⟩
  subst ha
  refine run_firstCells_some (P:=P) w' sy k ⟨b,off,none⟩ _ cap (news.take (k*sy)) ?_ λj u hj=>?_
  ·have:=aV sy hk
   simp;omega
  ·rw[zm (by rw[hw'];exact hh)]
   rw[aU]at hj
   split at hj
   ·exact g2 j u hj
   ·cases hj
theorem yP{P:Program}{c:Ctx}{w:World}{R:Rows}{y:D}{v:Value}{sy sz:Nat}{ys:Els}(h0:0<sz)(h:srcOf R y=some (sy,ys))(hs:sy=sz\/ys.l=[])(hm:Mem c w)(hA:Q69 c R)(hr:Rep c w y v):Src P c w v ys.l sz:=by
 cases y<;>simp only[srcOf]at h<;>try(cases h;done)
 case nils=>cases h;rw[show v=_ from hr];exact Qp2 (sy:=sz) h0 (es:=[]) (.inl rfl)
 case emp=>cases h;obtain⟨a,hv,_⟩:=hr;rw[hv];exact Qp2 (sy:=sz) h0 (es:=[]) (.inl rfl)
 case sl s es fr=>
  cases h
  obtain⟨a,cap,hv,hc,hes⟩:=hr
  rw[hv]
  refine Qp2 (sy:=sy) h0 ?_
  rcases hes with hes|⟨b,off,arr,ty,fz,ha,hI,hf,hh,hE⟩
  ·exact .inl hes
  ·rcases hs with hs|hs
   ·exact .inr ⟨hs,b,off,arr,ty,fz,ha,hh,hE⟩
   ·exact .inl hs
 case all r=>
  split at h
  ·rename_i ty s es hR
   cases h
   obtain⟨row,g1,g2,hv⟩:=hr
   have:=hA r row _ g1 hR
   subst this
   rcases hv with⟨hV,a,hv,_⟩|⟨hV,cap,arr,hv,g3,g4,g5,g6⟩
   ·have he:=(hm.virt g1 hV).2.1
    simp only at he
    rw[hv,he]
    exact Qp2 (sy:=sz) h0 (es:=[]) (.inl rfl)
   ·obtain⟨arr',ha',hs',hx⟩:=hm.real g1 hV
    simp only at g5 ha' hx hv
    rw[g5]at ha';cases ha'
    simp only[aN,if_false]at hx
    rw[hv]
    refine Qp2 (sy:=sy) h0 ?_
    rcases hs with hs|hs
    ·exact .inr ⟨hs,_,0,arr,_,_,rfl,g5,hx⟩
    ·exact .inl hs
  ·cases h
 case own r o n=>
  split at h
  ·rename_i ty s es hR
   cases h
   obtain⟨row,g1,g2,g5,hv⟩:=hr
   have:=hA r row _ g1 hR
   subst this
   simp only at g5
   have hlen:((es.l.drop o).take n).length=n:=by simp only[bD,bF];omega
   rw[Els.take_l,Els.drop_l]at hs⊢
   rcases hv with⟨g7,a,hv,_⟩|⟨hV,cap,arr,g3,g4,g6,hv,g7⟩
   ·subst g7
    rw[hv]
    have:=Qp2 (P:=P) (c:=c) (w:=w) (sy:=sz) h0 (es:=(es.l.drop o).take 0) (a:=a) (cap:=0) (.inl (by simp))
    simpa using this
   ·obtain⟨arr',ha',hs',hx⟩:=hm.real g1 hV
    simp only at g6 ha' hx hv
    rw[g6]at ha';cases ha'
    simp only[aN,if_false]at hx
    have hE:=Qcm (n:=n) (Qca (l:=o) hx)
    have:=Qp2 (P:=P) (c:=c) (w:=w) (sy:=sy) h0 (es:=(es.l.drop o).take n) (a:=some ⟨c.ρ r,o*sy,none⟩) (cap:=cap) (by
     rcases hs with hs|hs
     ·exact .inr ⟨hs,_,o*sy,arr,_,_,rfl,g6,by simpa using hE⟩
     ·exact .inl hs)
    rw[hlen]at this
    rw[hv];exact this
  ·cases h
theorem vP{P:Program}{c:Ctx}{w:World}{R:Rows}{ke kx:TK}{y:D}{v:Value}{sy sz:Nat}{ys:Els}(h0:0<sz)(h:srcT R ke kx y=some (sy,ys))(hs:sy=sz\/ys.l=[])(hm:Mem c w)(hA:Q69 c R)(hr:Rep c w y v):Src P c w v ys.l sz:=by
 unfold srcT at h
 split at h
 ·exact yP h0 h hs hm hA hr
 ·split at h
  ·rename_i s
   cases h
   have hv:=Rep.str.1 hr
   subst hv
   have hsz:(ByteArray.mk s.toArray).size=s.length:=by simp[ByteArray.size]
   have ext:∀k,((ByteArray.mk s.toArray).extract 0 k).data.toList=s.take k:=λk=>by
    simp[ByteArray.data_extract]
   have hf:∀k w',(Builtin.firstCells sz k (.string ⟨s.toArray⟩)).run P w'=.ok ((s.map λb=>Value.int .u8 b.toNat).take k).toArray w':=λk w'=>by
    simp only[Builtin.firstCells,Sem.run_pure]
    congr 1
    apply fR
    simp only[Array.toList_map,ext,List.map_take]
   rcases hs with hs|hs
   ·subst hs
    exact⟨s.map λb=>Value.int .u8 b.toNat,by simp[Qa2,Els.len],by simp[Builtin.lenOf,Qa2,Els.len,hsz],λk hk w' _=>by rw[hf];simp,Zd7 s⟩
   ·have:s=[]:=by simpa[Qa2,Els.l]using hs
    subst this
    exact⟨[],by simp[Qa2,Els.len],by simp[Builtin.lenOf,Qa2,Els.len,hsz],λk hk w' _=>by rw[hf];simp,by simp[Qa2,Els.l,Q2i,Q1o]⟩
  ·cases h
 ·cases h
def Ctx.addV(c:Ctx)(k:Nat)(row:Row):Ctx:={c with R:=λr=>if r=k then some row else c.R r,V:=λr=>r=k\/c.V r}
theorem Qmx{c:Ctx}{w:World}{k:Nat}(hk:c.R k=none)(row:Row):Q3p c w (c.addV k row) w:=by
 refine⟨rfl,aO _,λb hb=>⟨hb,rfl⟩,λr x hr=>?_⟩
 have hne:r≠k:=λe=>by rw[e,hk]at hr;cases hr
 exact⟨x,by simp[Ctx.addV,hne,hr],rfl,rfl,rfl,rfl,rfl,by simp[Ctx.addV,hne],λ_ arr ha=>⟨arr,ha,rfl⟩⟩
theorem Z4w{c:Ctx}{w:World}(hm:Mem c w){k:Nat}(hk:c.R k=none){row:Row}(hb:row.box=false)(he:row.es.l=[])(h0:0<row.sz):Mem (c.addV k row) w:=by
 have hg:=Qmx (w:=w) hk row
 have inv:∀r x,(c.addV k row).R r=some x->¬(c.addV k row).V r->c.R r=some x/\¬c.V r:=λr x hr hv=>by
  have h1:¬r=k:=λe=>hv (.inl e)
  exact⟨by simpa[Ctx.addV,h1]using hr,λe=>hv (.inr e)⟩
 refine⟨λr x hr=>?_,λr s x y hr hs v1 v2 h=>?_,λb hbI=>⟨(hm.imm b hbI).1,λr x hr v=>?_⟩,hm.top,hm.tab⟩
 ·by_cases e:r=k
  ·subst e
   simp only[Ctx.addV,if_true,Option.some.injEq]at hr
   subst hr
   exact .inl ⟨.inl rfl,hb,he,h0⟩
  ·have hr':c.R r=some x:=by simpa[Ctx.addV,e]using hr
   exact Q2r hg rfl (by simp[Ctx.addV,e]) (λ_=>rfl) (hm.row r x hr')
 ·obtain⟨h1,h2⟩:=inv r x hr v1
  obtain⟨h3,h4⟩:=inv s y hs v2
  exact hm.inj r s x y h1 h3 h2 h4 h
 ·obtain⟨h1,h2⟩:=inv r x hr v
  exact(hm.imm b hbI).2 r x h1 h2
theorem Qis(c:Ctx)(w:World):Q3p c w c w.drew:=⟨rfl,aO _,λb hb=>⟨hb,rfl⟩,λr row hr=>⟨row,hr,rfl,rfl,rfl,rfl,rfl,Iff.rfl,λ_ arr ha=>⟨arr,ha,rfl⟩⟩⟩
theorem Qne{c:Ctx}{w:World}(h:Mem c w):Mem c w.drew:=
 ⟨λr row hr=>Q2r (Qis c w) rfl Iff.rfl (λ_=>rfl) (h.row r row hr),h.inj,h.imm,h.top,h.tab⟩
theorem Qpc{I:Blocks}{w:World}{es ys:List (List D)}{A B C:List Value}{sz:Nat}(h1:Q18 I w es A.toArray 0 sz)(hA:A.length=es.length*sz)(h2:Q18 I w ys B.toArray 0 sz)(hB:B.length=ys.length*sz):Q18 I w (es++ys) (A++B++C).toArray 0 sz:=by
 rw[Q4e]at h1 h2⊢
 intro i hi
 by_cases hlt:i<es.length
 ·have he:(es++ys).getD i []=es.getD i []:=by simp[aK,aZ hlt]
  rw[he]
  obtain⟨g1,g2⟩:=h1 i hlt
  refine⟨g1,?_⟩
  rw[Q3n]at g2⊢
  intro j hj
  obtain⟨v,hv,hp⟩:=g2 j hj
  refine⟨v,?_,hp⟩
  have hl:=(Array.getElem?_eq_some_iff.1 hv).1
  simp only[aY,bA]at hv hl⊢
  rw[eZ,aZ hl];exact hv
 ·have hi':i-es.length<ys.length:=by simp at hi;omega
  have he:(es++ys).getD i []=ys.getD (i-es.length) []:=by simp[aK,bB (show es.length<=i by omega)]
  rw[he]
  obtain⟨g1,g2⟩:=h2 _ hi'
  refine⟨g1,?_⟩
  rw[Q3n]at g2⊢
  intro j hj
  obtain⟨v,hv,hp⟩:=g2 j hj
  refine⟨v,?_,hp⟩
  have hl:=(Array.getElem?_eq_some_iff.1 hv).1
  simp only[aY,bA]at hv hl⊢
  have e:0+i*sz+j=A.length+(0+(i-es.length)*sz+j):=by
   rw[hA,show i*sz=(es.length+(i-es.length))*sz by congr 1;omega,bC];omega
  rw[e,eZ,bB (by omega),aZ (by omega)]
  rw[show A.length+(0+(i-es.length)*sz+j)-A.length=0+(i-es.length)*sz+j by omega]
  exact hv
theorem qH{c:Ctx}{w:World}(hm:Mem c w){r k:Nat}{row row':Row}{cur arr:Array Value}(hr:c.R r=some row)(hV:¬c.V r)(hk:c.R k=none)(hh:w.heap[c.ρ r]?=some (.cells cur row.ty (0,0)))(hty:row'.ty=row.ty)(h0:0<row'.sz)(hb:row'.box=false)
 (hE:∀w',(∀b,c.I b->w'.heap[b]?=w.heap[b]?)->Q18 c.I w' row'.es.l arr 0 row'.sz):
 Q3p (c.kill [r]) w ((c.kill [r]).add k row' (c.ρ r)) (w.setRow (c.ρ r) arr)/\Mem ((c.kill [r]).add k row' (c.ρ r)) (w.setRow (c.ρ r) arr):=by
 have hmk:=Z6f (ks:=[r]) hm
 have hkk:(c.kill [r]).R k=none:=by simp[Ctx.kill,hk]
 have hno:∀s x,(c.kill [r]).R s=some x->s≠r/\s≠k:=λs x hs=>by
  obtain⟨h1,row0,h2,_⟩:=Q3g hs
  refine⟨λe=>?_,λe=>by rw[e,hkk]at hs;cases hs⟩
  rw[e]at h1
  have:=Q2w (r:=r) (l:=[r])
  simp[h1]at this
 have hnew:(w.setRow (c.ρ r) arr).heap[c.ρ r]?=some (.cells arr row.ty (0,0)):=setRow_heap w _ _ _ _ _ hh
 have hoth:∀s x,(c.kill [r]).R s=some x->¬c.V s->(w.setRow (c.ρ r) arr).heap[c.ρ s]?=w.heap[c.ρ s]? :=λs x hs v=>setRow_other w _ _ _ λe=>by
  obtain⟨_,row0,h2,_⟩:=Q3g hs
  exact(hno s x hs).1 (hm.inj s r row0 row h2 hr v hV e)
 have hI:∀b,c.I b->(w.setRow (c.ρ r) arr).heap[b]?=w.heap[b]? :=λb hb=>setRow_other w _ _ _ (λe=>(hm.imm b hb).2 r row hr hV e.symm)
 have hg:Q3p (c.kill [r]) w ((c.kill [r]).add k row' (c.ρ r)) (w.setRow (c.ρ r) arr):=by
  refine⟨rfl,aO _,λb hb=>⟨hb,hI b hb⟩,λs x hs=>?_⟩
  obtain⟨n1,n2⟩:=hno s x hs
  exact⟨x,by simp[Ctx.add,n2,hs],rfl,rfl,rfl,rfl,by simp[Ctx.add,n2],by simp[Ctx.add,n2],λv a ha=>⟨a,(hoth s x hs v).trans ha,rfl⟩⟩
 have inv:∀s x,((c.kill [r]).add k row' (c.ρ r)).R s=some x->¬((c.kill [r]).add k row' (c.ρ r)).V s->(s=k/\((c.kill [r]).add k row' (c.ρ r)).ρ s=c.ρ r)\/(s≠k/\s≠r/\((c.kill [r]).add k row' (c.ρ r)).ρ s=c.ρ s/\¬c.V s/\∃y,c.R s=some y):=λs x hs v=>by
  by_cases e:s=k
  ·exact .inl ⟨e,by simp[Ctx.add,e]⟩
  ·have hs':(c.kill [r]).R s=some x:=by simpa[Ctx.add,e]using hs
   obtain⟨_,y,hy,_⟩:=Q3g hs'
   have v':¬c.V s:=λh=>v (by simp only[Ctx.add];exact⟨e,h⟩)
   exact .inr ⟨e,(hno s x hs').1,by simp[Ctx.add,e,Ctx.kill],v',y,hy⟩
 refine⟨hg,⟨λs x hs=>?_,λs q x y hs hq v1 v2 he=>?_,λb hbI=>?_,by show c.top<=(w.setRow _ _).heap.size;simpa[World.setRow]using hm.top,hm.tab.mono hg.I⟩⟩
 ·by_cases e:s=k
  ·subst e
   simp only[Ctx.add,if_true,Option.some.injEq]at hs
   subst hs
   refine .inr ⟨by simp[Ctx.add],arr,by simp only[Ctx.add,if_true];rw[hty];exact hnew,h0,?_⟩
   rw[hb]
   simp only[aN,if_false]
   exact hE _ hI
  ·have hs':(c.kill [r]).R s=some x:=by simpa[Ctx.add,e]using hs
   exact Q2r hg (by simp[Ctx.add,e]) (by simp[Ctx.add,e]) (λv=>hoth s x hs' v) (hmk.row s x hs')
 ·rcases inv s x hs v1 with⟨e1,p1⟩|⟨e1,p1,p2,p3,y1,p4⟩<;>rcases inv q y hq v2 with⟨e2,q1⟩|⟨e2,q1,q2,q3,y2,q4⟩
  ·rw[e1,e2]
  ·rw[p1,q2]at he
   exact(q1 (hm.inj q r y2 row q4 hr q3 hV he.symm)).elim
  ·rw[p2,q1]at he
   exact(p1 (hm.inj s r y1 row p4 hr p3 hV he)).elim
  ·rw[p2,q2]at he
   exact hm.inj s q y1 y2 p4 q4 p3 q3 he
 ·refine⟨by simpa[World.setRow]using(hm.imm b hbI).1,λs x hs v=>?_⟩
  rcases inv s x hs v with⟨e1,p1⟩|⟨e1,p1,p2,p3,y1,p4⟩
  ·rw[p1];exact(hm.imm b hbI).2 r row hr hV
  ·rw[p2];exact(hm.imm b hbI).2 s y1 p4 p3
def OpK(P:Program)(o:Oper)(ev:Operand->D)(R:Rows)(ks:List Nat)(val:D)(R':Rows):Prop:=
 ∀ (c:Ctx) (w:World) (a:Act),Mem c w->c.base<=w.heap.size->(∀r,c.R r=R.getD r none)->(∀x∈o.op.operands,Rep c w (ev x) (a.eval x))->
  ∀K Q,(∀v w' c',NxtK ks c w c' w'->(∀r,c'.R r=R'.getD r none)->Rep c' w' val v->K (a.put o.dst v) w')->o.wpR P a w K Q
theorem OpW.toK{P:Program}{o:Oper}{ev:Operand->D}{R:Rows}{val:D}{R':Rows}(h:OpW P o ev R val R'):OpK P o ev R [] val R':=
 λc w a hm hb hR hev K Q hK=>h c w a hm hb hR hev K Q λv w' c' hn hR' hv=>hK v w' c' hn.toK hR' hv
section
variable {P:Program} {c:Ctx} {w:World} {R:Rows} {ks:List Nat} {e sz by':Nat} {es ys:Els}
theorem Qwi{row:Row}{ρ':Nat->Nat}{V':Nat->Prop}(hR:∀r,c.R r=R.getD r none):∀r,(if r=R.length then some row else(c.kill ks).R r)=(Ql2 ks R 0++[some row]).getD r none:=by
 intro r
 by_cases e:r=R.length
 ·subst e
  simp[aK,bB,Q8t]
 ·rw[if_neg e]
  by_cases hlt:r<R.length
  ·rw[aK,aZ (by rw[Q8t];exact hlt),<-aK,Qmk]
   simp[Ctx.kill,hR]
  ·rw[aK,aM (by simp[Q8t];omega)]
   simp[Ctx.kill,hR,aM (show R.length<=r by omega)]
theorem append_empty{t tx ty:TypeId}{i:TypeInfo}{z:Value}{ux:TypeDesc}(ht:P.underlying t=some (.slice e))(hux:P.underlying tx=some ux)(hx: ∀k,ux≠ .int k)(hi:P.info? e=some i)(hz:i.zero=some z)(hsz:i.size=sz)(hby:i.bytes=by')(hzs:z.cells.size=sz)
    (hm:Mem c w) (hb:c.base<=w.heap.size) (hR: ∀r,c.R r=R.getD r none) (h0:0<sz) (hb0:0<by') (hlim:by'*(0+ys.l.length)<=140737488355328) {a:Option Addr} (hoa:okA c.top a) {vy:Value} (hs:Src P c w vy ys.l sz):
    ∃v' w' c',(Builtin.append_ #[t,tx] ty #[.slice a 0 0,vy]).run P w= .ok v' w'/\NxtK ks c w c' w'/\(∀r,c'.R r=(Ql2 ks R 0++[some (⟨false,e,sz,ys⟩:Row)]).getD r none)/\Rep c' w' (.all R.length) v':=by
  obtain⟨news,g1,g2,g3,g4⟩:=hs
  have hk:c.R R.length=none:=by rw[hR];simp [aK]
  have hkk:(c.kill ks).R R.length=none:=by simp [Ctx.kill,hk]
  have hmk:=Z6f (ks:=ks) hm
  subst hsz
  by_cases hm0:ys.l.length=0
  . have hys:ys.l=[]:=fO hm0
    have hn:news=[]:=fO (by rw[g1,hm0];simp)
    subst hn
    rw[hys]at g2 g3
    have hrun:=Qkh (P:=P) w (ty:=ty) (n:=0) (cap:=0) (a:=a) (w':=w) ht hux hx hi g2 (by simpa using g3 0 (aO _) w rfl) (by simp) (λb _=>by simp [storeCells]) (λ_=>rfl)
    refine⟨_,w,(c.kill ks).addV R.length ⟨false,e,i.size,ys⟩,hrun,⟨Z4w hmk hkk rfl hys h0,Qmx hkk _,Fr.refl _ w,λb hb=> .inl hb,λr row' h1 h2=> ?_⟩,Qwi (ρ':=c.ρ) (V':=c.V) hR,?_⟩
    . have hne:r≠R.length:=λe=>h2 (.inl e)
      have h1':(c.kill ks).R r=some row':=by simpa [Ctx.addV,hne] using h1
      obtain⟨_,row0,h3,_⟩:=Q3g h1'
      exact .inl ⟨⟨row0,h3⟩,λe=>h2 (.inr e),rfl⟩
    . exact⟨⟨false,e,i.size,ys⟩,by simp [Ctx.addV],rfl, .inl ⟨.inl rfl,a,rfl,hoa⟩⟩
  . have hlen:(0+ys.l.length:Nat)*i.bytes<=140737488355328:=by rw[hby,fT];exact hlim
    have hl2:0+ys.l.length<=140737488355328:=bH (fU _ (by rw[hby];exact hb0)) hlen
    have hml:0+ys.l.length<=maxLen:=by unfold maxLen;omega
    have hrun:=Qkp (P:=P) w (ty:=ty) (n:=0) (cap:=0) (a:=a) (olds:=[]) (news:=news) ht hux hx hi hz g2
      (by have:=g3 _ (aO _) w.drew rfl;rwa [fM (by omega)]at this)
      (by cases a with
          |none=>simp [Builtin.firstCells]
          |some a=>simpa using run_firstCells_some (P:=P) w.drew i.size 0 a 0 0 [] (by simp) (λj v h=>by simp at h)) (by omega) (by omega) (growslice_fits (by omega) hlen)
    have hge:=grownCap_ge w (0+ys.l.length) 0 e
    have hcm:grownCap w (0+ys.l.length) 0 e<=maxLen:=grownCap_le_maxLen w _ _ e hml
    generalize grownCap w (0+ys.l.length) 0 e=gc at hrun hge hcm
    have harr:(#[]++news.toArray++Builtin.zeroCells z.cells (gc-(0+ys.l.length))).size=gc*i.size:=by
      have e1:(#[]++news.toArray++Builtin.zeroCells z.cells (gc-(0+ys.l.length))).size=ys.l.length*i.size+(gc-(0+ys.l.length))*i.size:=by
        simp [size_zeroCells,hzs,g1]
      rw[e1,<-bC]
      congr 1;omega
    have hE: ∀(I:Blocks) (w':World),(∀b,c.I b->I b/\w'.heap[b]? =w.heap[b]?)->Q18 I w' ys.l (#[]++news.toArray++Builtin.zeroCells z.cells (gc-(0+ys.l.length))) 0 i.size:=λI w' h=>by
      have:=Qpc (I:=I) (w:=w') (es:=[]) (ys:=ys.l) (A:=[]) (B:=news) (C:=(Builtin.zeroCells z.cells (gc-(0+ys.l.length))).toList) (sz:=i.size) (by simp [Q2i,Q1o]) (by simp) (Q1c h _ _ _ _ g4) g1
      have h2:(#[]++news.toArray++Builtin.zeroCells z.cells (gc-(0+ys.l.length)))=([]++news++(Builtin.zeroCells z.cells (gc-(0+ys.l.length))).toList).toArray:=by apply fR;simp
      rw[h2];simpa using this
    have hal:=Mem.alloc (w:=w.drew) (Qne hmk) hkk ⟨false,e,i.size,ys⟩ (#[]++news.toArray++Builtin.zeroCells z.cells (gc-(0+ys.l.length))) h0 (by
      simp only[aN,if_false]
      exact hE _ _ λb hb=>⟨hb,rfl⟩)
    have hrep:=Zep (c:=c.kill ks) (w:=w.drew) (k:=R.length) (e:=e) (sz:=i.size) (cap:=gc) (es:=ys) (arr:= #[]++news.toArray++Builtin.zeroCells z.cells (gc-(0+ys.l.length))) (by omega) hcm harr.symm
    refine⟨_,_,(c.kill ks).add R.length ⟨false,e,i.size,ys⟩ w.heap.size,hrun,⟨hal,(Qis _ w).trans (Q3p.alloc (w:=w.drew) (Qne hmk) hkk _ _),?_,λb hb=> .inl hb,λr row' h1 h2=> ?_⟩,Qwi (ρ':=c.ρ) (V':=c.V) hR,by have h3:=hrep;simp only[aX]at h3⊢;exact h3⟩
    . exact Fr.trans (w':=w.drew) ⟨rfl,rfl,rfl,aO _,λ_ _ _=>rfl⟩ (Fr.alloc _ w.drew _)
    . by_cases e1:r=R.length
      . subst e1
        right;right
        simp [Ctx.add]
      . have h1':(c.kill ks).R r=some row':=by simpa [Ctx.add,e1] using h1
        obtain⟨_,row0,h3,_⟩:=Q3g h1'
        exact .inl ⟨⟨row0,h3⟩,by simpa [Ctx.add,e1,Ctx.kill] using h2,by simp [Ctx.add,e1,Ctx.kill]⟩
theorem Za6{t tx ty:TypeId}{i:TypeInfo}{z:Value}{ux:TypeDesc}(ht:P.underlying t=some (.slice e))(hux:P.underlying tx=some ux)(hx:∀k,ux≠.int k)(hi:P.info? e=some i)(hz:i.zero=some z)(hsz:i.size=sz)(hby:i.bytes=by')(hzs:z.cells.size=sz)
 (hm:Mem c w) (hb:c.base<=w.heap.size) (hR:∀r,c.R r=R.getD r none) (h0:0<sz) (hb0:0<by') (hlim:by'*(es.l.length+ys.l.length)<=140737488355328) {r:Nat} {row:Row} (q1:c.R r=some row) (hty:row.ty=e) (hV:¬c.V r) {cap:Nat} {cur:Array Value} (h1:es.l.length<=cap) (h2:cap<=maxLen) (h3:w.heap[c.ρ r]?=some (.cells cur e (0,0))) (h4:cap*sz=cur.size) (hE0:Q18 c.I w es.l cur 0 sz) {vy:Value} (hs:Src P c w vy ys.l sz):
 ∃v' w' c',(Builtin.append_ #[t,tx] ty #[.slice (some ⟨c.ρ r,0,none⟩) es.l.length cap,vy]).run P w=.ok v' w'/\NxtK [r] c w c' w'/\(∀q,c'.R q=(Ql2 [r] R 0++[some (⟨false,e,sz,es.app ys⟩:Row)]).getD q none)/\Rep c' w' (.all R.length) v':=by
 obtain⟨news,g1,g2,g3,g4⟩:=hs
 have hk:c.R R.length=none:=by rw[hR];simp[aK]
 have hkk:(c.kill [r]).R R.length=none:=by simp[Ctx.kill,hk]
 have hmk:=Z6f (ks:=[r]) hm
 subst hsz
 have hlen:(es.l.length+ys.l.length)*i.bytes<=140737488355328:=by rw[hby,fT];exact hlim
 have hl2:es.l.length+ys.l.length<=140737488355328:=bH (fU _ (by rw[hby];exact hb0)) hlen
 have hml:es.l.length+ys.l.length<=maxLen:=by unfold maxLen;omega
 obtain⟨olds,o1,o2,o3⟩:=Z9r hE0 h0
 by_cases hroom:es.l.length+ys.l.length<=cap
 ·have hfit:es.l.length*i.size+0+news.length<=cur.size:=by rw[g1,<-h4,bG,<-bC];exact aV _ hroom
  have hst:=run_storeCells_at (P:=P) (c.ρ r) (es.l.length*i.size) e news 0 cur w h3 hfit (Q18.one g4 g1)
  simp only[bG]at hst hfit
  have hrun:=Qkh (P:=P) w (ty:=ty) (n:=es.l.length) (cap:=cap) (a:=some ⟨c.ρ r,0,none⟩) ht hux hx hi g2 (by have:=g3 _ (aO _) w rfl;rwa [fM (by omega)]at this) hroom (λb hb=>by cases hb;rw[Addr.add_lit,aX];exact hst) (λh=>by cases h)
  have hE:∀w',(∀b,c.I b->w'.heap[b]?=w.heap[b]?)->Q18 c.I w' (es.app ys).l (cur.toList.take (es.l.length*i.size)++news++cur.toList.drop (es.l.length*i.size+news.length)).toArray 0 i.size:=λw' h=>by
   rw[Els.app_l]
   refine Qpc (A:=cur.toList.take (es.l.length*i.size)) (Q1c (λb hb=>⟨hb,h b hb⟩) _ _ _ _ ?_) (by rw[bD,show cur.toList.length=cur.size from rfl];omega) (Q1c (λb hb=>⟨hb,h b hb⟩) _ _ _ _ g4) g1
   have:cur.toList.take (es.l.length*i.size)=olds:=by
    apply List.ext_getElem?
    intro j
    by_cases hj:j<olds.length
    ·have:=o2 j _ (cG hj)
     rw[aU,if_pos (by omega),cG hj]
     simpa using this
    ·rw[aM (by rw[bD];omega),aM (by omega)]
   rw[this];exact o3
  obtain⟨k1,k2⟩:=qH hm (k:=R.length) (row':=⟨false,e,i.size,es.app ys⟩) q1 hV hk (by rw[hty];exact h3) hty.symm h0 rfl hE
  refine⟨_,_,_,hrun,⟨k2,k1,(Qmn w _ _).mono λb _ hb=>⟨r,_,q1,hV,hb.symm⟩,λb hb=>.inl hb,λq row' p1 p2=>?_⟩,Qwi (ρ':=c.ρ) (V':=c.V) hR,?_⟩
  ·by_cases e1:q=R.length
   ·subst e1
    exact .inr (.inl ⟨r,_,by simp[memB],q1,hV,by simp[Ctx.add]⟩)
   ·have h1':(c.kill [r]).R q=some row':=by simpa[Ctx.add,e1]using p1
    obtain⟨_,row0,h3',_⟩:=Q3g h1'
    exact .inl ⟨⟨row0,h3'⟩,by simpa[Ctx.add,e1,Ctx.kill]using p2,by simp[Ctx.add,e1,Ctx.kill]⟩
  ·refine⟨⟨false,e,i.size,es.app ys⟩,by simp[Ctx.add],rfl,.inr ⟨by simp[Ctx.add],cap,(cur.toList.take (es.l.length*i.size)++news++cur.toList.drop (es.l.length*i.size+news.length)).toArray,?_,by rw[Els.app_l,lA];exact hroom,h2,?_,?_⟩⟩
   ·simp only[Ctx.add,if_true,Els.app_l,lA]
   ·simp only[Ctx.add,if_true];exact setRow_heap w _ _ _ _ _ h3
   ·simp only[bA,lA,bD,bF,Array.length_toList]
    rw[h4];omega
 ·have hrun:=Qkp (P:=P) w (ty:=ty) (n:=es.l.length) (cap:=cap) (a:=some ⟨c.ρ r,0,none⟩) (olds:=olds) (news:=news) ht hux hx hi hz g2
   (by have:=g3 _ (aO _) w.drew rfl;rwa [fM (by omega)]at this)
   (run_firstCells_some (P:=P) w.drew i.size es.l.length _ _ cap olds o1 λj v hj=>by
    rw[zm (w:=w.drew) h3];exact o2 j v hj) (by omega) (by omega) (growslice_fits (by omega) hlen)
  have hge:=grownCap_ge w (es.l.length+ys.l.length) cap e
  have hcm:grownCap w (es.l.length+ys.l.length) cap e<=maxLen:=grownCap_le_maxLen w _ _ e hml
  generalize grownCap w (es.l.length+ys.l.length) cap e=gc at hrun hge hcm
  have harr:(olds.toArray++news.toArray++Builtin.zeroCells z.cells (gc-(es.l.length+ys.l.length))).size=gc*i.size:=by
   have e1:(olds.toArray++news.toArray++Builtin.zeroCells z.cells (gc-(es.l.length+ys.l.length))).size=es.l.length*i.size+ys.l.length*i.size+(gc-(es.l.length+ys.l.length))*i.size:=by
    simp[size_zeroCells,hzs,g1,o1]
   rw[e1,<-bC,<-bC]
   congr 1;omega
  have hE:∀(I:Blocks) (w':World),(∀b,c.I b->I b/\w'.heap[b]?=w.heap[b]?)->Q18 I w' (es.app ys).l (olds.toArray++news.toArray++Builtin.zeroCells z.cells (gc-(es.l.length+ys.l.length))) 0 i.size:=λI w' h=>by
   rw[Els.app_l]
   have:=Qpc (I:=I) (w:=w') (es:=es.l) (ys:=ys.l) (A:=olds) (B:=news) (C:=(Builtin.zeroCells z.cells (gc-(es.l.length+ys.l.length))).toList) (sz:=i.size) (Q1c h _ _ _ _ o3) o1 (Q1c h _ _ _ _ g4) g1
   have h2:(olds.toArray++news.toArray++Builtin.zeroCells z.cells (gc-(es.l.length+ys.l.length)))=(olds++news++(Builtin.zeroCells z.cells (gc-(es.l.length+ys.l.length))).toList).toArray:=by apply fR;simp
   rw[h2];exact this
  have hal:=Mem.alloc (w:=w.drew) (Qne hmk) hkk ⟨false,e,i.size,es.app ys⟩ (olds.toArray++news.toArray++Builtin.zeroCells z.cells (gc-(es.l.length+ys.l.length))) h0 (by
   simp only[aN,if_false]
   exact hE _ _ λb hb=>⟨hb,rfl⟩)
  have hrep:=Zep (c:=c.kill [r]) (w:=w.drew) (k:=R.length) (e:=e) (sz:=i.size) (cap:=gc) (es:=es.app ys) (arr:=olds.toArray++news.toArray++Builtin.zeroCells z.cells (gc-(es.l.length+ys.l.length))) (by rw[Els.app_l,lA];omega) hcm harr.symm
  refine⟨_,_,(c.kill [r]).add R.length ⟨false,e,i.size,es.app ys⟩ w.heap.size,hrun,⟨hal,(Qis _ w).trans (Q3p.alloc (w:=w.drew) (Qne hmk) hkk _ _),?_,λb hb=>.inl hb,λq row' p1 p2=>?_⟩,Qwi (ρ':=c.ρ) (V':=c.V) hR,by rw[Els.app_l,lA]at hrep;exact hrep⟩
  ·exact Fr.trans (w':=w.drew) ⟨rfl,rfl,rfl,aO _,λ_ _ _=>rfl⟩ (Fr.alloc _ w.drew _)
  ·by_cases e1:q=R.length
   ·subst e1
    right;right
    simp[Ctx.add]
   ·have h1':(c.kill [r]).R q=some row':=by simpa[Ctx.add,e1]using p1
    obtain⟨_,row0,h3',_⟩:=Q3g h1'
    exact .inl ⟨⟨row0,h3'⟩,by simpa[Ctx.add,e1,Ctx.kill]using p2,by simp[Ctx.add,e1,Ctx.kill]⟩
theorem Zi5{t tx ty:TypeId}{i:TypeInfo}{z:Value}{ux:TypeDesc}(ht:P.underlying t=some (.slice e))(hux:P.underlying tx=some ux)(hx:∀k,ux≠.int k)(hi:P.info? e=some i)(hz:i.zero=some z)(hsz:i.size=sz)(hby:i.bytes=by')(hzs:z.cells.size=sz)
 (hm:Mem c w) (hb:c.base<=w.heap.size) (hR:∀r,c.R r=R.getD r none) (h0:0<sz) (hb0:0<by') (hlim:by'*(es.l.length+ys.l.length)<=140737488355328) {r:Nat} (hr:R.getD r none=some ⟨false,e,sz,es⟩) {vx vy:Value} (hvx:Rep c w (.all r) vx) (hs:Src P c w vy ys.l sz):
 ∃v' w' c',(Builtin.append_ #[t,tx] ty #[vx,vy]).run P w=.ok v' w'/\NxtK [r] c w c' w'/\(∀q,c'.R q=(Ql2 [r] R 0++[some (⟨false,e,sz,es.app ys⟩:Row)]).getD q none)/\Rep c' w' (.all R.length) v':=by
 obtain⟨row,q1,q2,hv⟩:=hvx
 have hrow:row=⟨false,e,sz,es⟩:=by rw[hR,hr]at q1;exact(Option.some.inj q1).symm
 subst hrow
 rcases hv with⟨hV,a,hv,hoa⟩|⟨hV,cap,cur,hv,h1,h2,h3,h4⟩
 ·have he:=(hm.virt q1 hV).2.1
  simp only at he
  subst hv
  have hl:(es.app ys).l=ys.l:=by rw[Els.app_l,he];rfl
  exact append_empty (ks:=[r]) (ys:=es.app ys) ht hux hx hi hz hsz hby hzs hm hb hR h0 hb0 (by rw[hl];rw[he]at hlim;simpa using hlim) hoa (by rw[hl];exact hs)
 ·have hl:=hm.real q1 hV
  obtain⟨cur',ha',_,hE0⟩:=hl
  simp only at h1 h3 h4 hv ha'
  subst hv
  rw[h3]at ha';cases ha'
  simp only[aN,if_false]at hE0
  exact Za6 ht hux hx hi hz hsz hby hzs hm hb hR h0 hb0 hlim q1 rfl hV h1 h2 h3 h4 hE0 hs
theorem Zim{n:Nat}{t tx ty:TypeId}{i:TypeInfo}{z:Value}{ux:TypeDesc}(ht:P.underlying t=some (.slice e))(hux:P.underlying tx=some ux)(hx:∀k,ux≠.int k)(hi:P.info? e=some i)(hz:i.zero=some z)(hsz:i.size=sz)(hby:i.bytes=by')(hzs:z.cells.size=sz)
 (hm:Mem c w) (hb:c.base<=w.heap.size) (hR:∀r,c.R r=R.getD r none) (h0:0<sz) (hb0:0<by') (hlim:by'*((es.take n).l.length+ys.l.length)<=140737488355328) {r:Nat} (hr:R.getD r none=some ⟨false,e,sz,es⟩) {vx vy:Value} (hvx:Rep c w (.own r 0 n) vx) (hs:Src P c w vy ys.l sz):
 ∃v' w' c',(Builtin.append_ #[t,tx] ty #[vx,vy]).run P w=.ok v' w'/\NxtK [r] c w c' w'/\(∀q,c'.R q=(Ql2 [r] R 0++[some (⟨false,e,sz,(es.take n).app ys⟩:Row)]).getD q none)/\Rep c' w' (.all R.length) v':=by
 obtain⟨row,q1,q2,hle,hv⟩:=hvx
 have hrow:row=⟨false,e,sz,es⟩:=by rw[hR,hr]at q1;exact(Option.some.inj q1).symm
 subst hrow
 have hln:(es.take n).l.length=n:=by rw[Els.take_l,bD];simp only at hle;omega
 rcases hv with⟨h0',a,hv,hoa⟩|⟨hV,cap,cur,h1,h2,h3,hv,h4⟩
 ·subst hv;subst h0'
  have hz0:(es.take 0).l=[]:=by rw[Els.take_l];rfl
  have hl:((es.take 0).app ys).l=ys.l:=by rw[Els.app_l,hz0];rfl
  have g:Q3p c w {c with top:=w.heap.size} w:=⟨rfl,hm.top,λb hb=>⟨hb,rfl⟩,λr row hr=>⟨row,hr,rfl,rfl,rfl,rfl,rfl,Iff.rfl,λnv arr ha=>⟨arr,ha,rfl⟩⟩⟩
  have hm1:Mem {c with top:=w.heap.size} w:=⟨λr row hr=>Q2r g rfl Iff.rfl (λ_=>rfl) (hm.row r row hr),hm.inj,hm.imm,aO _,hm.tab⟩
  have ho1:okA w.heap.size a:=by
   rcases hoa with h|⟨hV,h⟩
   ·exact h.mono hm.top
   ·exactλx hx=>by rw[h x hx];exact hm.lt q1 hV
  obtain⟨v',w',c',p1,p2,p3,p4⟩:=append_empty (c:={c with top:=w.heap.size}) (ks:=[r]) (ys:=(es.take 0).app ys) ht hux hx hi hz hsz hby hzs hm1 hb hR h0 hb0 (by rw[hl];rw[hz0]at hlim;simpa using hlim) ho1 (by rw[hl];exact hs)
  refine⟨v',w',c',p1,⟨p2.mem,?_,p2.fr,p2.imm,p2.rho⟩,p3,p4⟩
  have g':Q3p (c.kill [r]) w (Ctx.kill {c with top:=w.heap.size} [r]) w:=⟨rfl,hm.top,λb hb=>⟨hb,rfl⟩,λr row hr=>⟨row,hr,rfl,rfl,rfl,rfl,rfl,Iff.rfl,λnv arr ha=>⟨arr,ha,rfl⟩⟩⟩
  exact g'.trans p2.grows
 ·obtain⟨cur',ha',_,hE0⟩:=hm.real q1 hV
  simp only at h3 h4 hv ha'
  rw[h3]at ha';cases ha'
  simp only[aN,if_false]at hE0
  have hE1:Q18 c.I w (es.take n).l cur 0 sz:=by rw[Els.take_l];exact Qcm hE0
  rw[hv,show((0:Nat)*sz)=0 from Nat.zero_mul _]
  have:=Za6 (ty:=ty) (es:=es.take n) (cap:=cap) ht hux hx hi hz hsz hby hzs hm hb hR h0 hb0 hlim q1 rfl hV (by rw[hln];exact h1) h2 h3 (by rw[<-h4,aX]) hE1 hs
  rw[hln]at this
  exact this
end
theorem Z5{E:Els}(h:Zdz E=true):E.l=[]:=by
 unfold Zdz at h
 split at h
 ·rfl
 ·cases h
theorem Zf0{P:Program}{T:Tab}(hT:Q50 P T){M:Nat}{t tx ty:TypeId}{x y:D}{R:Rows}{K:List Nat->D->Rows->Prop}(h:Zhc T M t tx x y R K):
    ∃ ks R',K ks (.all R.length) R'/\(∀k,memB k ks=true->M<=k)/\ ∀c w vx vy,Mem c w->c.base<=w.heap.size->(∀r,c.R r=R.getD r none)->Rep c w x vx->Rep c w y vy->
      ∃v' w' c',(Builtin.append_ #[t,tx] ty #[vx,vy]).run P w= .ok v' w'/\NxtK ks c w c' w'/\(∀r,c'.R r=R'.getD r none)/\Rep c' w' (.all R.length) v':=by
  unfold Zhc at h
  split at h
  . rename_i e esz _ _ _ _ _ ht
    have hk:=Q1p hT ht
    simp only at hk
    split at h
    . rename_i ke sz by' cs z q kx _ _ _ _ _ he htx
      obtain⟨i,u,hi,hu,hzz,hs,hb,hc,hzero⟩:=Qg9 hT he
      have hkx:=Q1p hT htx
      split at h
      . rename_i sy ys hsrc
        simp only[Q05,aE,Bool.or_eq_true]at h
        obtain⟨⟨⟨⟨h0,h1⟩,h2,h3⟩,h4,h5⟩,h⟩:=h
        have h0:0<sz:=lE h0
        have hb0:0<by':=lE h4
        have h2:=bE h2
        have h5:sy=sz\/ys.l=[]:=h5.imp bE Z5
        have hus:u.cells.size=sz:=by have:=Qbj hzz;simp at this;omega
        obtain⟨ux,hux,hnx⟩: ∃ux,P.underlying tx=some ux/\ ∀k,ux≠ .int k:=by
          unfold srcT at hsrc
          split at hsrc
          . simp only at hkx;exact⟨_,hkx.1,λk e=>by cases e⟩
          . simp only at hkx;exact⟨_,hkx,λk e=>by cases e⟩
          . cases hsrc
        have hsrc': ∀(c:Ctx) (w:World) (vy:Value),Mem c w->(∀r,c.R r=R.getD r none)->Rep c w y vy->Src P c w vy ys.l sz:=λc w vy hm hR hy=>vP h0 hsrc h5 hm (λr row row' g1 g2=>by rw[hR,g2]at g1;exact(Option.some.inj g1).symm) hy
        cases x<;>simp only at h
        case nils=>
          simp only[Z0,Q05,decide_eq_true_eq,Q1e,<-Els.len_l]at h
          refine⟨_,_,h.2,λk hk=>by simp [memB]at hk,λc w vx vy hm hb' hR hx hy=> ?_⟩
          rw[show vx=_ from hx]
          have hl:((Els.gen []).app ys).l=ys.l:=by rw[Els.app_l];rfl
          exact append_empty (ks:=[]) (ys:=(Els.gen []).app ys) hk.1 hux hnx hi hu hs hb hus hm hb' hR h0 hb0 (by rw[hl];have:=h.1;simpa [Els.l] using this) Qr7 (by rw[hl];exact hsrc' c w vy hm hR hy)
        case emp=>
          simp only[Z0,Q05,decide_eq_true_eq,Q1e,<-Els.len_l]at h
          refine⟨_,_,h.2,λk hk=>by simp [memB]at hk,λc w vx vy hm hb' hR hx hy=> ?_⟩
          obtain⟨a,hx,hoa⟩:=hx
          rw[hx]
          have hl:((Els.gen []).app ys).l=ys.l:=by rw[Els.app_l];rfl
          exact append_empty (ks:=[]) (ys:=(Els.gen []).app ys) hk.1 hux hnx hi hu hs hb hus hm hb' hR h0 hb0 (by rw[hl];have:=h.1;simpa [Els.l] using this) hoa (by rw[hl];exact hsrc' c w vy hm hR hy)
        case all r=>
          split at h
          . rename_i ty' s es hr
            simp only[aE,Z0,Q05,decide_eq_true_eq,Q1e,<-Els.len_l]at h
            obtain⟨⟨⟨g1,g2⟩,g3⟩,g5,g6⟩:=h
            have g1:=bE g1
            have g2:=bE g2
            subst g1;subst g2
            refine⟨_,_,g6,λk hk=> ?_,λc w vx vy hm hb' hR hx hy=> ?_⟩
            . have:=Q2w.1 hk
              simp at this
              rw[this];exact lE g3
            . exact Zi5 hk.1 hux hnx hi hu hs hb hus hm hb' hR h0 hb0 g5 hr hx (hsrc' c w vy hm hR hy)
          . exact h.elim
        case own r o n=>
          split at h
          . rename_i ty' s es hr
            simp only[aE,Z0,Q05,decide_eq_true_eq,Q1e,<-Els.len_l]at h
            obtain⟨⟨⟨g1,g2⟩,g3,g4⟩,g5,g6⟩:=h
            have g1:=bE g1
            have g2:=bE g2
            have g4:=bE g4
            subst g1;subst g2;subst g4
            refine⟨_,_,g6,λk hk=> ?_,λc w vx vy hm hb' hR hx hy=> ?_⟩
            . have:=Q2w.1 hk
              simp at this
              rw[this];exact lE g3
            . exact Zim hk.1 hux hnx hi hu hs hb hus hm hb' hR h0 hb0 g5 hr hx (hsrc' c w vy hm hR hy)
          . exact h.elim
      . exact h.elim
    . exact h.elim
  . exact h.elim
theorem Qye{c:Ctx}{w:World}{d:D}{v:Value}(hne:∀f cs,d≠.clo f cs)(h:CRep c w d v):CRep {c with base:=0} w d v:=by
 cases d with
 |sl sz es fr=>
  obtain⟨a,cap,hv,hc,hes⟩:=h
  refine⟨a,cap,hv,hc,?_⟩
  rcases hes with hes|⟨b,off,arr,ty,fz,ha,hI,hf,hh,hE⟩
  ·exact .inl hes
  ·exact .inr ⟨b,off,arr,ty,fz,ha,hI,λ_=>Nat.zero_le _,hh,hE⟩
 |clo f cs=>exact absurd rfl (hne f cs)
 |_=>exact h
theorem Qs6{c:Ctx}{w:World}{d:D}{v:Value}(h:CRep c w d v):CRep {c with base:=0} w d v:=by
 by_cases e:∃g cs,d=.clo g cs
 ·obtain⟨g,cs,rfl⟩:=e
  obtain⟨us,hv,hu⟩:=h
  exact⟨us,hv,Qy7 (c:=c) (w:=w) (c':={c with base:=0}) (w':=w) (S:=λ_=>True) (λd v q1 _ q2=>Qye q1 q2) (λ_ hb=>⟨hb,rfl⟩) (λ_ _=>trivial) hu⟩
 ·exact Qye (λf cs e'=>e ⟨f,cs,e'⟩) h
theorem Qxv{c:Ctx}{w:World}:∀{ds:List D} {vs:List Value},Q3l c w ds vs->Q3l {c with base:=0} w ds vs
 |[],[],_=>trivial
 |_::_,_::_,h=>⟨Qs6 h.1,Qxv h.2⟩
 |[],_::_,h=>h.elim
 |_::_,[],h=>h.elim
theorem Z33{c:Ctx}{w:World}{d:D}{v:Value}(h:VRep c w d v):VRep {c with base:=0} w d v:=by
 cases d with
 |agg cs=>obtain⟨vs,hv,hr⟩:=h;exact⟨vs,hv,Qxv hr⟩
 |_=>exact VRep.ofC (Qs6 (VRep.toC (λcs e=>by cases e) h))
theorem Qox{c:Ctx}{w:World}:∀{ds:List D} {vs:List Value},Q6t c w ds vs->Q6t {c with base:=0} w ds vs
 |[],[],_=>trivial
 |_::_,_::_,h=>⟨Z33 h.1,Qox h.2⟩
 |[],_::_,h=>h.elim
 |_::_,[],h=>h.elim
theorem Qu8{c:Ctx}{w:World}:∀{ds:List D} {arr:Array Value} {off:Nat},Q3u c w ds arr off->Q3u {c with base:=0} w ds arr off
 |[],_,_,_=>trivial
 |_::_,_,_,⟨⟨v,hv,h1⟩,h2⟩=>⟨⟨v,hv,Qs6 h1⟩,Qu8 h2⟩
theorem Zah{c:Ctx}{w:World}(h:Mem c w):Mem {c with base:=0} w:=by
 refine⟨λr row hr=>?_,h.inj,h.imm,h.top,h.tab⟩
 rcases h.row r row hr with h0|⟨h0,arr,ha,hs,hx⟩
 ·exact .inl h0
 ·refine .inr ⟨h0,arr,ha,hs,?_⟩
  split
  ·rename_i hb
   rw[if_pos hb]at hx
   obtain⟨e,k1,k2,k3,k4⟩:=hx
   exact⟨e,k1,k2,k3,Qu8 k4⟩
  ·rename_i hb
   rw[if_neg hb]at hx
   exact hx
theorem Quy{f:Nat->Nat}:∀{ids:List Nat} {rows:List Row} {R:Rows},ids.Nodup->ids.length<=rows.length->(∀r∈ids,r<R.length)->
 (Qes f ids rows R).length=R.length/\(∀(i r:Nat),ids[i]?=some r->∃row,rows[i]?=some row/\(Qes f ids rows R).getD r none=some (row.ren f false))/\∀r,r∉ids->(Qes f ids rows R).getD r none=R.getD r none
 |[],rows,R,_,_,_=>by
  have:Qes f [] rows R=R:=by cases rows<;>rfl
  rw[this]
  exact⟨rfl,λi r h=>by simp at h,λ_ _=>rfl⟩
 |r::ids,[],R,_,hl,_=>by simp at hl
 |r ::ids,row::rows,R,hnd,hl,hlt=>by
  obtain⟨hni,hnd'⟩:=List.nodup_cons.1 hnd
  obtain⟨g1,g2,g3⟩:=Quy (f:=f) (ids:=ids) (rows:=rows) (R:=R.set r (some (row.ren f false))) hnd' (by simpa using hl) (λq hq=>by simpa using hlt q (by simp[hq]))
  have hr:=hlt r (by simp)
  have hat:(R.set r (some (row.ren f false))).getD r none=some (row.ren f false):=by simp[aK,hr]
  have hne:∀q,q≠r->(R.set r (some (row.ren f false))).getD q none=R.getD q none:=λq hq=>by simp[aK,List.getElem?_set_ne (Ne.symm hq)]
  simp only[Qes]
  refine⟨by simpa using g1,λi q hq=>?_,λq hq=>?_⟩
  ·cases i with
   |zero=>
    simp at hq;subst hq
    exact⟨row,rfl,by rw[g3 _ hni];exact hat⟩
   |succ i=>simpa using g2 i q (by simpa using hq)
  ·have h1:q≠r:=λe=>hq (by simp[e])
   rw[g3 q (λe=>hq (by simp[e])),hne q h1]
def Ctx.behindK(c:Ctx)(c':Ctx)(kl n0:Nat)(R2:Rows):Ctx:=
 { ρ:=λr=>if n0<=r/\r<R2.length then c'.ρ (kl+(r-n0)) else c.ρ r,
   R:=λr=>R2.getD r none,
   V:=λr=>if n0<=r/\r<R2.length then c'.V (kl+(r-n0)) else c.V r,
   I:=c'.I,base:=c.base,top:=c'.top,X:=c.X}
theorem Qci{i k n:Nat}:memB i (bK k n)=true↔k<=i/\i<k+n:=by
 rw[Q2w,List.mem_range'_1]
theorem Z43{c c':Ctx}{w w':World}{R:Rows}{ids:List Nat}{k:Nat}{crows rows':List Row}(hm:Mem c w)(hR:∀r,c.R r=R.getD r none)
 (hnd:ids.Nodup) (hrows:Ql0 R (λr=>pos r ids 0) ids=some crows) (hle:(ids.take k).length<=rows'.length)
 (hx:NxtK (bK k (crows.length-k)) {c.pass w ids crows false with base:=0} w c' w') (hR':∀i,c'.R i=rows'[i]?)
 {R2:Rows} (hR2:R2=Qes (bk (ids.take k) R.length) (ids.take k) rows' (Ql2 (ids.drop k) R 0)++Qqe (bk (ids.take k) R.length) (rows'.drop (ids.take k).length)):
 Z1b (λ_=>True) (bk (ids.take k) R.length) false c' (c.behindK c' (ids.take k).length R.length R2)/\
 NxtK (ids.drop k) c w (c.behindK c' (ids.take k).length R.length R2) w':=by
 obtain⟨hcl,hcg⟩:=Q99 hrows
 generalize hf:bk (ids.take k) R.length=f at*
 generalize hkl:(ids.take k).length=kl at*
 have hRi:∀r row,R.getD r none=some row->c.R r=some row:=λr row e=>by rw[hR];exact e
 have hlt:∀r∈ids,r<R.length:=λr hr=>by
  obtain⟨row,h1,_⟩:=hcg _ r (Qe2 hr)
  by_cases hl:r<R.length
  ·exact hl
  ·rw[aK,aM (by omega)]at h1;cases h1
 have htd:ids.take k++ids.drop k=ids:=List.take_append_drop k ids
 have hndk:(ids.take k).Nodup:=by rw[<-htd]at hnd;exact(List.nodup_append.1 hnd).1
 have hdisj:∀r,r∈ids.take k->r∈ids.drop k->False:=λr h1 h2=>by
  rw[<-htd]at hnd
  exact(List.nodup_append.1 hnd).2.2 r h1 r h2 rfl
 have hkl':kl=min k ids.length:=by rw[<-hkl];simp
 have hkget:∀i,i<kl->(ids.take k)[i]?=ids[i]? :=λi hi=>by rw[aU,if_pos (by omega)]
 have hgget:∀i r,ids[i]?=some r->kl<=i->r∈ids.drop k:=λi r hi hge=>by
  have hlt':=(List.getElem?_eq_some_iff.1 hi).1
  have:(ids.drop k)[i-k]?=some r:=by rw[fS,show k+(i-k)=i by omega];exact hi
  exact fV this
 obtain⟨k1,k2,k3⟩:=Quy (f:=f) (ids:=ids.take k) (rows:=rows') (R:=Ql2 (ids.drop k) R 0) hndk (by rw[hkl];exact hle) (λr hr=>by rw[Q8t];exact hlt r (cR hr))
 rw[Q8t]at k1
 have hlen2:R2.length=R.length+(rows'.length-kl):=by rw[hR2];simp[k1,Qqe]
 have hlo:∀r,r<R.length->R2.getD r none=(Qes f (ids.take k) rows' (Ql2 (ids.drop k) R 0)).getD r none:=λr hr=>by
  rw[hR2,aK,aK,aZ (by omega)]
 have hhi:∀i,kl<=i->i<rows'.length->R2.getD (R.length+(i-kl)) none=rows'[i]?.map λrow=>row.ren f false:=λi h1 h2=>by
  have:∀(l:List Row) (j:Nat),(Qqe f l)[j]?=l[j]?.map λrow=>some (row.ren f false):=λl j=>by simp[Qqe]
  rw[hR2,aK,bB (by omega),this,k1,show R.length+(i-kl)-R.length=i-kl by omega,fS,show kl+(i-kl)=i by omega]
  rw[cG h2];rfl
 have old:∀i r row',i<kl->ids[i]?=some r->c'.R i=some row'->∃row,c.R r=some row/\row'.box=row.box/\row'.ty=row.ty/\row'.sz=row.sz/\row'.es.l.length=row.es.l.length/\c'.ρ i=c.ρ r/\(c'.V i↔c.V r)/\r<R.length/\R2.getD r none=some (row'.ren f false)/\f i=r/\
  (¬c.V r->∀arr,w.heap[c.ρ r]?=some (.cells arr row.ty (0,0))->∃arr',w'.heap[c.ρ r]?=some (.cells arr' row.ty (0,0))/\arr'.size=arr.size):=by
  intro i r row' hik hi hrow'
  obtain⟨row,h1,h2⟩:=hcg i r hi
  have hm':=fV hi
  have h3:=hRi r row h1
  have hkill:(({c.pass w ids crows false with base:=0}:Ctx).kill (bK k (crows.length-k))).R i=some ((row.ren (λr=>pos r ids 0) false).kill (bK k (crows.length-k))):=by
   simp only[Ctx.kill,Ctx.pass]
   rw[if_neg (λe=>by have:=Qci.1 e;omega),h2];rfl
  obtain⟨row'',g1,g2,g3,g4,g5,g6,gV,g7⟩:=hx.grows.R i _ hkill
  rw[hrow']at g1;cases g1
  obtain⟨s1,s2,s3,s4⟩:=Qge (λr=>pos r ids 0) false row
  obtain⟨t1,t2,t3,t4⟩:=Q4d (bK k (crows.length-k)) (row.ren (λr=>pos r ids 0) false)
  have hi':=(hkget i hik).trans hi
  obtain⟨row3,q1,q2⟩:=k2 i r hi'
  rw[hR',q1]at hrow';cases hrow'
  refine⟨row,h3,g2.trans (t1.trans s1),g3.trans (t2.trans s2),g4.trans (t3.trans s3),g5.trans (t4.trans s4),by simpa[Ctx.kill,Ctx.pass,hi]using g6,by simpa[Ctx.kill,Ctx.pass,hi]using gV,hlt r hm',by rw[hlo r (hlt r hm')];exact q2,by rw[<-hf];simp[bk,hi'],λnv arr ha=>?_⟩
  have:=g7 (by simpa[Ctx.kill,Ctx.pass,hi]using nv) arr (by simpa[Ctx.kill,Ctx.pass,hi,s2,t2]using ha)
  simpa[Ctx.kill,Ctx.pass,hi,s2,t2]using this
 have blk:∀i row',c'.R i=some row'->¬c'.V i->(∃j s row,ids[j]?=some s/\c.R s=some row/\¬c.V s/\c'.ρ i=c.ρ s/\(i<kl->j=i)/\(kl<=i->s∈ids.drop k))\/w.heap.size<=c'.ρ i:=by
  intro i row' h1 nv
  by_cases hik:i<kl
  ·have hi':ids[i]?=some ids[i]:=cG (by omega)
   obtain⟨row,g1,g2,g3,g4,g5,g6,g7,_⟩:=old i _ row' hik hi' h1
   exact .inl ⟨i,_,row,hi',g1,λe=>nv (g7.2 e),g6,λ_=>rfl,λh=>by omega⟩
  ·rcases hx.rho i row' h1 nv with⟨⟨x,hx1⟩,v,e⟩|⟨s,x,hs,hx1,v,e⟩|e
   ·have hx2:crows[i]?=some x:=hx1
    have hli:=(List.getElem?_eq_some_iff.1 hx2).1
    have hi':ids[i]?=some ids[i]:=cG (by omega)
    obtain⟨row,g1,g2⟩:=hcg i _ hi'
    exact .inl ⟨i,_,row,hi',hRi _ _ g1,by simpa[Ctx.pass,hi']using v,by simpa[Ctx.pass,hi']using e,λh=>by omega,λ_=>hgget i _ hi' (by omega)⟩
   ·have hx2:crows[s]?=some x:=hx1
    have hli:=(List.getElem?_eq_some_iff.1 hx2).1
    have hi':ids[s]?=some ids[s]:=cG (by omega)
    obtain⟨row,g1,g2⟩:=hcg s _ hi'
    have hsk:=(Qci.1 hs).1
    exact .inl ⟨s,_,row,hi',hRi _ _ g1,by simpa[Ctx.pass,hi']using v,by simpa[Ctx.pass,hi']using e,λh=>by omega,λ_=>hgget s _ hi' (by omega)⟩
   ·exact .inr e
 have new:∀i row',kl<=i->c'.R i=some row'->i<rows'.length/\R2.getD (R.length+(i-kl)) none=some (row'.ren f false)/\f i=R.length+(i-kl):=by
  intro i row' hi hrow'
  have h1:rows'[i]?=some row':=by rw[<-hR'];exact hrow'
  have h2:=(List.getElem?_eq_some_iff.1 h1).1
  refine⟨h2,by rw[hhi i hi h2,h1];rfl,?_⟩
  rw[<-hf]
  simp only[bk]
  rw[aM (by omega),hkl]
 have hren:Z1b (λ_=>True) f false c' (c.behindK c' kl R.length R2):=by
  refine⟨λi row' _ hrow'=>?_,(λh=>by cases h),aO _⟩
  obtain⟨s1,s2,s3,s4⟩:=Qge f false row'
  by_cases hi:i<kl
  ·have hi':ids[i]?=some ids[i]:=cG (by omega)
   obtain⟨row,g1,g2,g3,g4,g5,g6,g7,g8,g9,g10,_⟩:=old i _ row' hi hi' hrow'
   rw[g10]
   exact⟨_,g9,s1,s2,s3,s4,by simp only[Ctx.behindK];rw[if_neg (by omega),g6],by simp only[Ctx.behindK];rw[if_neg (by omega)];exact g7.symm⟩
  ·obtain⟨h1,h2,h3⟩:=new i row' (by omega) hrow'
   rw[h3]
   have hc:R.length<=R.length+(i-kl)/\R.length+(i-kl)<R2.length:=by omega
   have he:kl+(R.length+(i-kl)-R.length)=i:=by omega
   exact⟨_,h2,s1,s2,s3,s4,by simp only[Ctx.behindK];rw[if_pos hc,he],by simp only[Ctx.behindK];rw[if_pos hc,he]⟩
 have hfr:Fr (λb=>∃r x,c.R r=some x/\¬c.V r/\r∈ids/\c.ρ r=b) w w':=hx.fr.mono λb _ ⟨i,x,h1,h2,h3⟩=>by
  have h1':crows[i]?=some x:=h1
  have hi:i<ids.length:=by have:=(List.getElem?_eq_some_iff.1 h1').1;omega
  have hi':ids[i]?=some ids[i]:=cG hi
  obtain⟨row,g1,g2⟩:=hcg i _ hi'
  exact⟨_,row,hRi _ row g1,by simpa[Ctx.pass,hi']using h2,fV hi',by simpa[Ctx.pass,hi']using h3⟩
 have rest:∀r,r∉ids->r<R.length->R2.getD r none=(R.getD r none).map (Row.kill (ids.drop k)):=λr h1 h2=>by
  rw[hlo r h2,k3 r (λe=>h1 (cR e)),Qmk,aX,if_neg (λe=>h1 (cS (Q2w.1 e)))]
 have gone:∀r,r∈ids.drop k->R2.getD r none=none:=λr h=>by
  rw[hlo r (hlt r (cS h)),k3 r (λe=>hdisj r e h),Qmk,aX,if_pos (Q2w.2 h)]
 have inv:∀r x,(c.behindK c' kl R.length R2).R r=some x->(∃i row',c'.R i=some row'/\x=row'.ren f false/\(c.behindK c' kl R.length R2).ρ r=c'.ρ i/\((c.behindK c' kl R.length R2).V r↔c'.V i)/\(i<kl/\ids[i]?=some r/\(c.behindK c' kl R.length R2).ρ r=c.ρ r/\((c.behindK c' kl R.length R2).V r↔c.V r)\/R.length<=r/\kl<=i/\r=R.length+(i-kl)))\/
  (∃row,c.R r=some row/\x=row.kill (ids.drop k)/\r∉ids/\(c.behindK c' kl R.length R2).ρ r=c.ρ r/\((c.behindK c' kl R.length R2).V r↔c.V r)):=by
  intro r x hx'
  have hx':R2.getD r none=some x:=hx'
  by_cases hm':r∈ids
  ·by_cases hg:r∈ids.drop k
   ·rw[gone r hg]at hx';cases hx'
   ·left
    have hp:=Qe2 hm'
    have hpk:pos r ids 0<kl:=by
     by_cases h:pos r ids 0<kl
     ·exact h
     ·exact(hg (hgget _ r hp (by omega))).elim
    obtain⟨row3,q1,q2⟩:=k2 _ r ((hkget _ hpk).trans hp)
    have hc':c'.R (pos r ids 0)=some row3:=by rw[hR'];exact q1
    obtain⟨row,g1,g2,g3,g4,g5,g6,g7,g8,g9,g10,_⟩:=old _ r row3 hpk hp hc'
    rw[g9]at hx'
    cases hx'
    have e1:(c.behindK c' kl R.length R2).ρ r=c.ρ r:=by simp only[Ctx.behindK];rw[if_neg (by omega)]
    have e2:(c.behindK c' kl R.length R2).V r↔c.V r:=by simp only[Ctx.behindK];rw[if_neg (by omega)]
    exact⟨_,row3,hc',rfl,by rw[e1,g6],by rw[e2,g7],.inl ⟨hpk,hp,e1,e2⟩⟩
  ·by_cases hc:R.length<=r
   ·left
    have hr2:r<R2.length:=by
     by_cases h:r<R2.length
     ·exact h
     ·rw[aK,aM (by omega)]at hx';cases hx'
    have hi:kl+(r-R.length)<rows'.length:=by omega
    have hc':c'.R (kl+(r-R.length))=some rows'[kl+(r-R.length)]:=by rw[hR'];exact cG hi
    obtain⟨h1,h2,h3⟩:=new _ _ (by omega) hc'
    rw[show R.length+(kl+(r-R.length)-kl)=r by omega]at h2
    rw[h2]at hx'
    cases hx'
    exact⟨_,_,hc',rfl,by simp only[Ctx.behindK];rw[if_pos ⟨hc,hr2⟩],by simp only[Ctx.behindK];rw[if_pos ⟨hc,hr2⟩],.inr ⟨hc,by omega,by omega⟩⟩
   ·right
    rw[rest r hm' (by omega)]at hx'
    simp only[fP]at hx'
    obtain⟨row,h1,h2⟩:=hx'
    exact⟨row,hRi r row h1,h2.symm,hm',by simp only[Ctx.behindK];rw[if_neg (by omega)],by simp only[Ctx.behindK];rw[if_neg (by omega)]⟩
 have apart:∀r row i row',c.R r=some row->r∉ids->¬c.V r->c'.R i=some row'->¬c'.V i->c'.ρ i≠c.ρ r:=λr row i row' h1 h2 h3 h4 h5 e=>by
  rcases blk i row' h4 h5 with⟨j,s,row2,q1,q2,q3,q4,_⟩|q
  ·have:=hm.inj s r row2 row q2 h1 q3 h3 (by rw[<-q4,e])
   subst this
   exact h2 (fV q1)
  ·have:=hm.lt h1 h3;omega
 have hgrow:Q3p (c.kill (ids.drop k)) w (c.behindK c' kl R.length R2) w':=by
  refine⟨rfl,hx.grows.top,λb hbI=>?_,λr x hr=>?_⟩
  ·have h1:(({c.pass w ids crows false with base:=0}:Ctx).kill (bK k (crows.length-k))).I b:=.inl hbI
   exact⟨(hx.grows.I b h1).1,(hx.grows.I b h1).2⟩
  ·obtain⟨hng,row,hrow,rfl⟩:=Q3g hr
   have hng:r∉ids.drop k:=λe=>by rw[Q2w.2 e]at hng;cases hng
   obtain⟨u1,u2,u3,u4⟩:=Q4d (ids.drop k) row
   by_cases hm':r∈ids
   ·have hp:=Qe2 hm'
    have hpk:pos r ids 0<kl:=by
     by_cases h:pos r ids 0<kl
     ·exact h
     ·exact(hng (hgget _ r hp (by omega))).elim
    obtain⟨row3,q1,q2⟩:=k2 _ r ((hkget _ hpk).trans hp)
    have hc':c'.R (pos r ids 0)=some row3:=by rw[hR'];exact q1
    obtain⟨row0,g1,g2,g3,g4,g5,g6,g7,g8,g9,g10,g11⟩:=old _ r row3 hpk hp hc'
    rw[hrow]at g1;cases g1
    obtain⟨s1,s2,s3,s4⟩:=Qge f false row3
    refine⟨_,g9,s1.trans (g2.trans u1.symm),s2.trans (g3.trans u2.symm),s3.trans (g4.trans u3.symm),s4.trans (g5.trans u4.symm),by simp only[Ctx.behindK];rw[if_neg (by omega)];rfl,by simp only[Ctx.behindK];rw[if_neg (by omega)];rfl,λnv arr ha=>?_⟩
    rw[u2]at ha⊢
    exact g11 nv arr ha
   ·have hrl:r<R.length:=by
     by_cases h:r<R.length
     ·exact h
     ·rw[hR,aK,aM (by omega)]at hrow;cases hrow
    refine⟨row.kill (ids.drop k),?_,rfl,rfl,rfl,rfl,by simp only[Ctx.behindK];rw[if_neg (by omega)];rfl,by simp only[Ctx.behindK];rw[if_neg (by omega)];rfl,λnv arr ha=>⟨arr,?_,rfl⟩⟩
    ·show R2.getD r none=_
     rw[rest r hm' hrl,<-hR,hrow];rfl
    ·have nv:¬c.V r:=nv
     show w'.heap[c.ρ r]?=_
     rw[hfr.heap _ (hm.lt hrow nv) fun⟨s,x,h1,h2,h3,h4⟩=>hm' (by rw[<-hm.inj s r x row h1 hrow h2 nv h4];exact h3)]
     exact ha
 refine⟨hren,⟨λr x hx'=>?_,λr s x y hr hs v1 v2 he=>?_,λb hbI=>⟨(hx.mem.imm b hbI).1,λr x hr v=>?_⟩,hx.mem.top,hx.mem.tab⟩,hgrow,hfr.mono λb _ ⟨r,x,h1,h2,_,h4⟩=>⟨r,x,h1,h2,h4⟩,λb hbI=>?_,λr x hr v=>?_⟩
 ·rcases inv r x hx' with⟨i,row',h1,rfl,h3,h4,_⟩|⟨row,h1,rfl,h2,h3,h4⟩
  ·exact Zd4 hren (flat:=False) (.inl λb hb=>hb) h3 h4 (λ_ _ _ _ _=>trivial) (λe=>e.elim) (hx.mem.row i row' h1)
  ·have hk:=Zg8 (ks:=ids.drop k) (hm.row r row h1)
   exact Q2r hgrow h3 h4 (λnv=>hfr.heap _ (hm.lt h1 nv) fun⟨s,x',g1,g2,g3,g4⟩=>h2 (by rw[<-hm.inj s r x' row g1 h1 g2 nv g4];exact g3)) hk
 ·rcases inv r x hr with⟨i,x',h1,_,h3,h4,h5⟩|⟨row,h1,_,h2,h3,h4⟩<;>rcases inv s y hs with⟨j,y',g1,_,g3,g4,g5⟩|⟨row2,g1,_,g2,g3,g4⟩
  ·have:i=j:=hx.mem.inj i j x' y' h1 g1 (λe=>v1 (h4.2 e)) (λe=>v2 (g4.2 e)) (by rw[<-h3,<-g3];exact he)
   subst this
   rcases h5 with⟨q0,q1,_⟩|⟨_,q1,q2⟩<;>rcases g5 with⟨p0,p1,_⟩|⟨_,p1,p2⟩
   ·rw[q1]at p1;exact Option.some.inj p1
   ·omega
   ·omega
   ·omega
  ·exact(apart s row2 i x' g1 g2 (λe=>v2 (g4.2 e)) h1 (λe=>v1 (h4.2 e)) (by rw[<-h3,<-g3];exact he)).elim
  ·exact(apart r row j y' h1 h2 (λe=>v1 (h4.2 e)) g1 (λe=>v2 (g4.2 e)) (by rw[<-h3,<-g3];exact he.symm)).elim
  ·exact hm.inj r s row row2 h1 g1 (λe=>v1 (h4.2 e)) (λe=>v2 (g4.2 e)) (by rw[<-h3,<-g3];exact he)
 ·rcases inv r x hr with⟨i,x',h1,_,h3,h4,h5⟩|⟨row,h1,_,h2,h3,h4⟩
  ·rw[h3];exact(hx.mem.imm b hbI).2 i x' h1 (λe=>v (h4.2 e))
  ·have nv:¬c.V r:=λe=>v (h4.2 e)
   rw[h3]
   rcases hx.imm b hbI with q|⟨s,z,q1,q2,q3,q4⟩|q
   ·rcases q with q|⟨q,_⟩
    ·exact(hm.imm b q).2 r row h1 nv
    ·cases q
   ·intro e
    have hz:crows[s]?=some z:=q2
    have hli:=(List.getElem?_eq_some_iff.1 hz).1
    have hi':ids[s]?=some ids[s]:=cG (by omega)
    obtain⟨row2,g1,g2⟩:=hcg s _ hi'
    have:=hm.inj _ r row2 row (hRi _ _ g1) h1 (by simpa[Ctx.pass,hi']using q3) nv (by rw[e];simpa[Ctx.pass,hi']using q4)
    exact h2 (by rw[<-this];exact fV hi')
   ·have:=hm.lt h1 nv;omega
 ·rcases hx.imm b hbI with q|⟨s,z,q1,q2,q3,q4⟩|q
  ·rcases q with q|⟨q,_⟩
   ·exact .inl q
   ·cases q
  ·have hz:crows[s]?=some z:=q2
   have hli:=(List.getElem?_eq_some_iff.1 hz).1
   have hi':ids[s]?=some ids[s]:=cG (by omega)
   obtain⟨row2,g1,g2⟩:=hcg s _ hi'
   have hsk:=(Qci.1 q1).1
   exact .inr (.inl ⟨_,row2,Q2w.2 (hgget s _ hi' (by omega)),hRi _ _ g1,by simpa[Ctx.pass,hi']using q3,by simpa[Ctx.pass,hi']using q4⟩)
  ·exact .inr (.inr q)
 ·rcases inv r x hr with⟨i,x',h1,_,h3,h4,h5⟩|⟨row,h1,_,h2,h3,h4⟩
  ·rcases h5 with⟨q0,q1,q2,q3⟩|⟨q0,q1,q2⟩
   ·obtain⟨row,g1,_⟩:=old i r x' q0 q1 h1
    exact .inl ⟨⟨row,g1⟩,λe=>v (q3.2 e),q2⟩
   ·rcases blk i x' h1 (λe=>v (h4.2 e))with⟨j,s,row2,p1,p2,p3,p4,_,p5⟩|p
    ·exact .inr (.inl ⟨s,row2,Q2w.2 (p5 q1),p2,p3,by rw[h3];exact p4⟩)
    ·exact .inr (.inr (by rw[h3];exact p))
  ·exact .inl ⟨⟨row,h1⟩,λe=>v (h4.2 e),h3⟩
def CallC(P:Program)(f:FuncId)(args:List Operand)(ev:Operand->D)(R:Rows)(ks:List Nat)(val:D)(R':Rows):Prop:=
 ∀ (c:Ctx) (w:World) (ρ:Operand->Value),Mem c w->c.base<=w.heap.size->(∀r,c.R r=R.getD r none)->(∀y∈args,Rep c w (ev y) (ρ y))->
  ∀K':Value->World->Prop,(∀v w' c',NxtK ks c w c' w'->(∀r,c'.R r=R'.getD r none)->Rep c' w' val v->K' v w')->Qwx P c.I f (args.map ρ) w λe w'=>∃v,e=.returned v/\K' v w'
theorem Qy8{P:Program}{G:List Q09}{M:Nat}(hG:Q7l P G){f:FuncId}{k:Nat}{args:List Operand}{ev:Operand->D}{R:Rows}{K:List Nat->D->Rows->Prop}
 (hgo:Q9u G f=some k) (h:Ze3 G M f k (args.map ev) R K):∃ks val R' x,K ks val R'/\Qh8 G f=some x/\(x.refs≠[])/\(∀j,memB j ks=true->M<=j)/\CallC P f args ev R ks val R':=by
 unfold Ze3 at h
 split at h
 ·rename_i x hx
  have hgn:x.gone=some k:=by simpa[Q9u,hx]using hgo
  obtain⟨hok,hf⟩:=Qhx hG hx
  split at h
  ·rename_i az crows has hcrows
   simp only[Q05,aE]at h
   obtain⟨⟨⟨⟨hv,hrf⟩,h1,h2⟩,h3,h4⟩,h⟩:=h
   generalize hids:Qbt R x.refs (args.map ev)=ids at*
   have hsub:=Qnn.1 h1
   have hcl:=Qnn.1 h2
   have hnd:=Qf5.1 h3
   have hvals:Q4q x.refs (args.map ev)=[]:=by
    revert hv
    cases Q4q x.refs (args.map ev)<;>simp
   have hrefs:x.refs≠[]:=λe=>by rw[e]at hrf;simp at hrf
   have main:∀res rows',Zbl R (ids.take k) (ids.drop k) res rows' K->Qml P x.f k az crows res rows'->
    ∃ks val R' y,K ks val R'/\Qh8 G f=some y/\(y.refs≠[])/\(∀j,memB j ks=true->M<=j)/\CallC P f args ev R ks val R':=by
    intro res rows' hK hA
    simp only[Zbl,Q05,D.force_iff,Q1e]at hK
    obtain⟨hle,hK⟩:=hK
    have hle:=lE hle
    refine⟨_,_,_,x,hK,hx,hrefs,λj hj=>lE (List.all_eq_true.1 h4 j (Q2w.1 hj)),λc w ρ hm hb hR hev K' hK'=>?_⟩
    have hRi:∀r row,r∈ids->R.getD r none=some row->c.R r=some row:=λr row _ e=>by rw[hR];exact e
    have hAg:Q69 c R:=λr row row' g1 g2=>by rw[hR,g2]at g1;exact(Option.some.inj g1).symm
    have hn:=Qnm (len:=false) (w:=w) hRi hcrows
    have hargs:=Qmw (len:=false) (ρ:=ρ) hm hAg hn has (λe=>(e hvals).elim) (λr hr=>by rw[hvals]at hr;cases hr) hsub hev
    have hcall:=hA _ w _ (Zah (Z6u (len:=false) hm hRi hnd hcl hcrows)) rfl (λr=>rfl) (Qox hargs)
    rw[hf]at hcall
    refine hcall.mono (λb hb=>.inl hb) (λe w' hpost=>?_)
    obtain⟨v,c',he,hnx,hR',hres⟩:=hpost
    have:=Z43 (k:=k) hm hR hnd hcrows hle hnx hR' rfl
    exact⟨v,he,hK' v w' _ this.2 (λr=>rfl) (Z6v this.1 (flat:=False) (.inl λb hb=>hb) (λ_=>trivial) (λe=>e.elim) hres)⟩
   split at h
   ·rename_i α v res rows' hm
    exact main _ _ (h v rfl) (hok.kabs k hgn _ _ _ _ _ _ hm)
   ·rename_i p α v res rows' hm
    exact main _ _ (h.2 v rfl) (hok.kabsW k hgn _ _ _ _ _ _ _ hm h.1)
   ·exact h.elim
  ·exact h.elim
 ·exact h.elim
theorem Zes{P:Program}{G:List Q09}{M:Nat}(hG:Q7l P G){f:FuncId}(hy:f<YB){dst:Option Tmp}{k:Nat}{args:Array Operand}{tys:Array TypeId}{type:TypeId}{pos':String}{after:Array Edge}{guard:Option (Nat×Bool)}{ev:Operand->D}{R:Rows}{K:List Nat->D->Rows->Prop}
 (hgo:Q9u G f=some k) (h:Ze3 G M f k (args.toList.map ev) R K):∃ks val R' x,K ks val R'/\Qh8 G f=some x/\(x.refs≠[])/\(∀j,memB j ks=true->M<=j)/\OpK P ⟨dst,.call ⟨.value (.func f),args,tys⟩,type,pos',after,guard⟩ ev R ks val R':=by
 obtain⟨ks,val,R',x,h1,h2,h3,h4,h5⟩:=Qy8 hG hgo h
 obtain⟨hok,hf⟩:=Qhx hG h2
 refine⟨ks,val,R',x,h1,h2,h3,h4,λc w a hm hb hR hev K' Q hK'=>?_⟩
 subst hf
 exact Z4v hok rfl hy ((h5 c w a.eval hm hb hR (λy hy=>hev y (by simp[Op.operands,Call.operands];exact .inr (by simpa using hy))) (λv w'=>K' (a.put dst v) w') λv w' c'=>hK' v w' c').1 hy)
def Ctx.only(c:Ctx)(ks:List Nat):Ctx:={c with R:=λr=>if memB r ks=true then(match c.R r with|some row=>if row.box=true then none else some row|none=>none)else none}
theorem Qni{c:Ctx}{ks:List Nat}{r:Nat}{x:Row}(h:(c.only ks).R r=some x):r∈ks/\c.R r=some x/\x.box=false:=by
 simp only[Ctx.only]at h
 split at h
 ·rename_i hm
  split at h
  ·rename_i row hr
   split at h
   ·cases h
   ·rename_i hb
    cases h
    exact⟨Q2w.1 hm,hr,by simpa using hb⟩
  ·cases h
 ·cases h
theorem ym{c:Ctx}{ks:List Nat}{r:Nat}{x:Row}(hm:r∈ks)(hr:c.R r=some x)(hb:x.box=false):(c.only ks).R r=some x:=by
 simp[Ctx.only,Q2w.2 hm,hr,hb]
theorem xH{c:Ctx}{w:World}(hm:Mem c w)(ks:List Nat):Mem (c.only ks) w:=by
 refine⟨λr x hr=>?_,λr s x y hr hs=>?_,λb hb=>⟨(hm.imm b hb).1,λr x hr v=>?_⟩,hm.top,hm.tab⟩
 ·obtain⟨_,h1,h2⟩:=Qni hr
  rcases hm.row r x h1 with h|⟨h0,arr,ha,hs,hx⟩
  ·exact .inl h
  ·refine .inr ⟨h0,arr,ha,hs,?_⟩
   rw[if_neg (by rw[h2];simp)]at hx⊢
   exact hx
 ·exact hm.inj r s x y (Qni hr).2.1 (Qni hs).2.1
 ·exact(hm.imm b hb).2 r x (Qni hr).2.1 v
theorem Zas{c:Ctx}{w:World}{R:Rows}{ks:List Nat}{d d':D}{v:Value}(h:Z6w R d=some d')(hl:∀r∈Q7b d,r∈ks)(hr:CRep c w d v):CRep (c.only ks) w d v:=by
 cases d<;>simp only[Z6w]at h<;>try(cases h;done)
 case all r=>
  obtain⟨row,g1,g2,g3⟩:=hr
  exact⟨row,ym (hl r (by simp[Q7b])) g1 g2,g2,g3⟩
 case own r o n=>
  obtain⟨row,g1,g2,g3,g4⟩:=hr
  exact⟨row,ym (hl r (by simp[Q7b])) g1 g2,g2,g3,g4⟩
 all_goals exact hr
theorem Zao{c:Ctx}{w:World}{R:Rows}{ks:List Nat}:∀{ds ds':List D} {vs:List Value},Zdw R ds=some ds'->(∀r∈Qat ds,r∈ks)->Q3l c w ds vs->Q3l (c.only ks) w ds vs
 |[],_,[],_,_,_=>trivial
 |d ::ds,ds',v::vs,h,hl,hr=>by
  simp only[Zdw]at h
  split at h
  ·rename_i x xs h1 h2
   exact⟨Zas h1 (λr e=>hl r (by simp[Qat,e])) hr.1,Zao h2 (λr e=>hl r (by simp[Qat,e])) hr.2⟩
  ·cases h
 |[],_,_::_,_,_,h=>h.elim
 |_::_,_,[],_,_,h=>h.elim
theorem zH{c:Ctx}{w:World}{R:Rows}{ks:List Nat}{d d':D}{v:Value}(h:conv R d=some d')(hl:∀r∈Z76 d,r∈ks)(hr:Rep c w d v):Rep (c.only ks) w d v:=by
 cases d with
 |agg cs=>
  simp only[conv,fP]at h
  obtain⟨xs,h1,_⟩:=h
  obtain⟨vs,hv,hx⟩:=hr
  exact⟨vs,hv,Zao h1 hl hx⟩
 |tup ds=>simp[conv,Z6w]at h
 |dead=>trivial
 |_=>
  simp only[conv]at h
  simp only[Rep,VRep]at hr⊢
  exact Zas h hl hr
theorem Z37{R:Rows}{f:Nat->Nat}{ev:Operand->D}:∀{xs:List Operand} {az:List D},Qme R f [] (xs.map ev)=some az->∀x∈xs,∃y,conv R (ev x)=some y
 |[],_,_,x,hx=>by simp at hx
 |y ::xs,az,h,x,hx=>by
  simp only[fQ,Qme]at h
  split at h
  ·rename_i z zs h1 h2
   simp only[cO]at hx
   rcases hx with rfl|hx
   ·exact⟨_,h1⟩
   ·exact Z37 h2 x hx
  ·cases h
theorem Z2g{ev:Operand->D}{r:Nat}:∀{xs:List Operand} {x:Operand},x∈xs->r∈Z76 (ev x)->r∈Q4q [] (xs.map ev)
 |y::xs,x,hx,hr=>by
  simp only[fQ,Q4q,bX]
  simp only[cO]at hx
  rcases hx with rfl|hx
  ·exact .inl hr
  ·exact .inr (Z2g hx hr)
theorem Qmr{r:Nat}:∀{l ids:List Nat},r∈addB ids l->r∈ids\/r∈l
 |[],ids,h=>.inl h
 |x ::l,ids,h=>by
  simp only[addB]at h
  split at h
  ·rcases Qmr h with h|h
   ·exact .inl h
   ·exact .inr (by simp[h])
  ·rcases Qmr h with h|h
   ·simp only[bX,List.mem_singleton]at h
    rcases h with h|h
    ·exact .inl h
    ·exact .inr (by simp[h])
   ·exact .inr (by simp[h])
theorem vm{c:Ctx}{w:World}{d:D}{v:Value}(h:Rep c w d v):Rep {c with base:=0} w d v:=by
 cases d with
 |tup ds=>obtain⟨vs,hv,hx⟩:=h;exact⟨vs,hv,Qox hx⟩
 |dead=>trivial
 |_=>exact Rep.ofV (Z33 (Rep.toV (λds e=>by cases e) (λe=>by cases e) h))
theorem yH{P:Program}{G:List Q09}{M:Nat}(hG:Q7l P G){dst:Option Tmp}{f:FuncId}{args:Array Operand}{tys:Array TypeId}{type:TypeId}{pos':String}{after:Array Edge}{guard:Option (Nat×Bool)}{ev:Operand->D}{R:Rows}{K:List Nat->D->Rows->Prop}
 (hgo:Q9u G f=none) (h:callF G M f (args.toList.map ev) R K):∃ks val R' x,K ks val R'/\Qh8 G f=some x/\(∀j,memB j ks=true->M<=j)/\OpK P ⟨dst,.call ⟨.value (.func f),args,tys⟩,type,pos',after,guard⟩ ev R ks val R':=by
 unfold callF at h
 split at h
 ·rename_i x hx
  have hgn:x.gone=none:=by simpa[Q9u,hx]using hgo
  obtain⟨hok,hf⟩:=Qhx hG hx
  split at h
  ·rename_i az crows has hcrows
   simp only[Q05,aE]at h
   obtain⟨⟨⟨hrf,hbx⟩,h3,hsub,h4⟩,h⟩:=h
   have hks0:∀r,r∈addB [] (Q4q [] (args.toList.map ev))->r∈Q4q [] (args.toList.map ev):=λr hr=>by
    rcases Qmr hr with h|h
    ·cases h
    ·exact h
   generalize hids:addB [] (Q4q [] (args.toList.map ev))=ids at*
   have hnd:=Qf5.1 h3
   have hsub:=Qnn.1 hsub
   have main :∀res rows',Zbl R [] ids res rows' K->Q3i P x.f az [] res rows'->
    ∃ks val R' y,K ks val R'/\Qh8 G f=some y/\(∀j,memB j ks=true->M<=j)/\OpK P ⟨dst,.call ⟨.value (.func f),args,tys⟩,type,pos',after,guard⟩ ev R ks val R':=by
    intro res rows' hK hA
    simp only[Zbl,Q05,D.force_iff,Q1e]at hK
    obtain⟨_,hK⟩:=hK
    refine⟨_,_,_,x,hK,hx,λj hj=>lE (List.all_eq_true.1 h4 j (Q2w.1 hj)),λc w a hm hb hR hev K' Q hK'=>?_⟩
    have hAg:Q69 (c.only ids) R:=λr row row' g1 g2=>by
     have:=(Qni g1).2.1
     rw[hR,g2]at this;exact(Option.some.inj this).symm
    have hmo:=xH hm ids
    have hn:=Qnm (c:=c.only ids) (R:=R) (ids:=[]) (crows:=[]) (len:=true) (w:=w) (λr row e=>by cases e) rfl
    have hev':∀y∈args.toList,Rep (c.only ids) w (ev y) (a.eval y):=λy hy=>by
     obtain⟨z,hz⟩:=Z37 has y hy
     exact zH hz (λr hr=>hsub r (Z2g hy hr)) (hev y (by simp[Op.operands,Call.operands];exact .inr (by simpa using hy)))
    rw[Qx6 (λr=>r) (λr=>pos r [] 0)]at has
    have hargs:=Qmw (len:=true) (ρ:=a.eval) hmo hAg hn has (λ_=>rfl) (λr _ e=>by cases e) (λr e=>by rw[Qse]at e;cases e) hev'
    have hcall:=hA _ w _ (Z6u (R:=R) (len:=true) hmo (λr row e=>by cases e) (by simp) (λr e=>by simp[Qfh]at e) rfl) rfl (λr=>rfl) hargs
    refine Z4v hok hf (hok.real hgn) (hcall.mono λe w' hpost=>?_)
    obtain⟨v,c',he,hnx,hR',hres⟩:=hpost
    have nor:∀r x,((c.only ids).pass w [] [] true).R r=some x->False:=λr x h=>by simp[Ctx.pass]at h
    obtain⟨hcl,hcg⟩:=Q99 hcrows
    have hxK:NxtK (bK 0 (crows.length-0)) {c.pass w ids crows false with base:=0} w {c' with base:=0} w':=by
     refine⟨Zah hnx.mem,⟨rfl,hnx.grows.top,λb hbI=>?_,λr x hr=>?_⟩,hnx.fr.mono λb _ ⟨r,x,h1,_⟩=>(nor r x h1).elim,λb hbI=>?_,λr x hr hv=>?_⟩
     ·have:c.I b:=by
       rcases hbI with h|⟨h,_⟩
       ·exact h
       ·cases h
      exact⟨(hnx.grows.I b (.inl this)).1,(hnx.grows.I b (.inl this)).2⟩
     ·obtain⟨h1,row,h2,_⟩:=Q3g hr
      have h2':crows[r]?=some row:=h2
      have:=(List.getElem?_eq_some_iff.1 h2').1
      rw[Qci.2 (by omega)]at h1;cases h1
     ·rcases hnx.imm b hbI with h|h
      ·rcases h with h|⟨_,r,row,g1,g2,g3,_,g5⟩
       ·exact .inl (.inl h)
       ·obtain⟨k1,k2,k3⟩:=Qni g1
        have hp:=Qe2 k1
        obtain⟨row2,q1,q2⟩:=hcg _ r hp
        have hl:=(List.getElem?_eq_some_iff.1 q2).1
        exact .inr (.inl ⟨_,_,Qci.2 (by omega),q2,by simpa[Ctx.pass,Ctx.only,hp]using g2,by simpa[Ctx.pass,Ctx.only,hp]using g5⟩)
      ·exact .inr (.inr h)
     ·rcases hnx.rho r x hr hv with⟨⟨y,h1⟩,_⟩|h
      ·exact(nor r y h1).elim
      ·exact .inr (.inr h)
    have:=Z43 (k:=0) (c':={c' with base:=0}) hm hR hnd hcrows (by simp) hxK hR' rfl
    simp only[List.take_zero,List.drop_zero]at this
    exact⟨v,he,hK' v w' _ this.2 (λr=>rfl) (Z6v this.1 (flat:=False) (.inl λb hb=>hb) (λ_=>trivial) (λe=>e.elim) (vm hres))⟩
   split at h
   ·rename_i α v res rows' hm
    exact main _ _ (h v rfl) (hok.abs hgn _ _ _ _ _ _ hm).1
   ·rename_i p α v res rows' hm
    exact main _ _ (h.2 v rfl) (hok.absW hgn _ _ _ _ _ _ _ hm h.1).1
   ·exact h.elim
  ·exact h.elim
 ·exact h.elim
