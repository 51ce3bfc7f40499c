import Derived.Test.YtoijmgbahaekiaaGreatTopJournalFo
import Derived.Laws.Append
import Derived.Laws.CopyRow
import Derived.Laws.AppendOwn
open List renaming eq_nil_of_length_eq_zero->fK,map_cons->eJ,append_assoc->cP,getElem?_take->aU,getElem?_drop->cR,getElem?_toArray->aY,getD->aK,length_take->bD,length_drop->bG,getElem?_append_left->aZ,size_toArray->bA,getElem?_append_right->bB,getElem?_eq_none->aM,take_of_length_le->dW,getElem?_eq_getElem->cI,range'->bL,mem_of_getElem?->fM,mem_of_mem_take->eS,mem_of_mem_drop->cS,mem_cons->fG,mem_append->bZ
open Bool renaming false_eq_true->aN
open Option renaming map_eq_some_iff->fL
open Nat renaming add_zero->bH,succ_mul->aW,mul_le_mul_right->aV,zero_add->aX,mul_comm->dB,le_refl->aO,add_mul->bC,le_trans->bI,le_mul_of_pos_right->cU
open Array renaming ext'->cW
set_option linter.all false
namespace Go.GD
open Go
section
variable {c:Ctx} {w:World} {ks:List Nat}
theorem Q3f(ks:List Nat)(row:Row):(row.kill ks).box=row.box/\(row.kill ks).ty=row.ty/\(row.kill ks).sz=row.sz/\(row.kill ks).es.l.length=row.es.l.length:=by
 unfold Row.kill;split<;>exact⟨rfl,rfl,rfl,rfl⟩
theorem Qrw:∀{e:List D},(D.kills ks e).length=e.length
 |[]=>rfl
 |d::l=>by simp[D.kills,Qrw (e:=l)]
theorem Qzz{d:D}{v:Value}(hne:∀f cs,d≠.clo f cs)(h:CRep c w d v):CRep (c.kill ks) w (d.kill1 ks) v:=by
 have key:∀r row,memB r ks=false->c.R r=some row->(c.kill ks).R r=some (row.kill ks):=λr row hr hrow=>by simp[Ctx.kill,hr,hrow]
 have h1:=CRep.one h
 cases d with
 |all r=>
  simp only[D.kill1]
  cases hr:memB r ks with
  |true=>exact h1
  |false=>
   obtain⟨row,g1,g2,g3⟩:=h
   obtain⟨s1,s2,s3,s4⟩:=Q3f ks row
   exact⟨_,key r row hr g1,s1.trans g2,by rw[s2,s3,s4];exact g3⟩
 |own r o n=>
  simp only[D.kill1]
  cases hr:memB r ks with
  |true=>exact h1
  |false=>
   obtain⟨row,g1,g2,g3,g4⟩:=h
   obtain⟨s1,s2,s3,s4⟩:=Q3f ks row
   exact⟨_,key r row hr g1,s1.trans g2,by rw[s4];exact g3,by rw[s2,s3];exact g4⟩
 |ptr r i off=>
  simp only[D.kill1]
  cases hr:memB r ks with
  |true=>exact h1
  |false=>
   obtain⟨row,g1,g2,g3,g4⟩:=h
   obtain⟨s1,s2,s3,s4⟩:=Q3f ks row
   exact⟨_,key r row hr g1,g2,by rw[s4];exact g3,by rw[s3];exact g4⟩
 |pa r i off len k n=>
  simp only[D.kill1]
  cases hr:memB r ks with
  |true=>exact h1
  |false=>
   obtain⟨g0,row,g1,g2,g3,g4⟩:=h
   obtain⟨s1,s2,s3,s4⟩:=Q3f ks row
   exact⟨g0,_,key r row hr g1,g2,by rw[s4];exact g3,by rw[s3];exact g4⟩
 |selfp r=>
  simp only[D.kill1]
  cases hr:memB r ks with
  |true=>exact h1
  |false=>
   rcases h with h|⟨row,g1,g2,g3,g4⟩
   ·exact .inl h
   ·obtain⟨s1,s2,s3,s4⟩:=Q3f ks row
    exact .inr ⟨_,key r row hr g1,g2,by rw[s4];exact g3,by rw[s3];exact g4⟩
 |clo f cs=>exact absurd rfl (hne f cs)
 |_=>exact h
theorem vl{d:D}(hne:∀f cs,d≠.clo f cs)(h:∀r∈Q6i d,memB r ks=false):d.kill1 ks=d:=by
 cases d<;>first|rfl|(simp only[D.kill1];rw[h _ (by simp[Q6i])])|exact absurd rfl (hne _ _)
theorem Qn0{d:D}{v:Value}(h:CRep c w d v):CRep (c.kill ks) w (d.kill1 ks) v:=by
 by_cases e:∃g cs,d=.clo g cs
 ·obtain⟨g,cs,rfl⟩:=e
  have h1:=CRep.one h
  simp only[D.kill1]
  cases hd:disB (capL cs) ks with
  |false=>exact h1
  |true=>
   obtain⟨us,hv,hu⟩:=h
   exact⟨us,hv,Qtv (c:=c) (w:=w) (c':=c.kill ks) (w':=w) (S:=λr=>memB r ks=false) (λd v q1 q2 q3=>by have:=Qzz (ks:=ks) q1 q3;rwa [vl q1 q2]at this) (λ_ hb=>⟨hb,rfl⟩) (λr hr=>by
    have:=Qth.1 hd r hr
    cases hm:memB r ks with
    |false=>rfl
    |true=>exact(this (Q2i.1 hm)).elim) hu⟩
 ·exact Qzz (λf cs e'=>e ⟨f,cs,e'⟩) h
theorem Z65:∀{ds:List D} {vs:List Value},Q2y c w ds vs->Q2y (c.kill ks) w (D.kills ks ds) vs
 |[],[],_=>trivial
 |_::_,_::_,h=>⟨Qn0 h.1,Z65 h.2⟩
 |[],_::_,h=>h.elim
 |_::_,[],h=>h.elim
theorem Z8l{d:D}{v:Value}(h:VRep c w d v):VRep (c.kill ks) w (d.kill ks) v:=by
 cases d with
 |agg cs=>obtain⟨vs,hv,hr⟩:=h;exact⟨vs,hv,Z65 hr⟩
 |_=>
  have:=Qn0 (ks:=ks) (VRep.toC (λcs e=>by cases e) h)
  exact VRep.ofC this
theorem Z4z:∀{ds:List D} {vs:List Value},Q5p c w ds vs->Q5p (c.kill ks) w (D.killT ks ds) vs
 |[],[],_=>trivial
 |_::_,_::_,h=>⟨Z8l h.1,Z4z h.2⟩
 |[],_::_,h=>h.elim
 |_::_,[],h=>h.elim
theorem Qww{d:D}{v:Value}(h:Rep c w d v):Rep (c.kill ks) w (d.killV ks) v:=by
 cases d with
 |tup ds=>obtain⟨vs,hv,hr⟩:=h;exact⟨vs,hv,Z4z hr⟩
 |dead=>trivial
 |_=>
  have:=Z8l (ks:=ks) (Rep.toV (λds e=>by cases e) (λe=>by cases e) h)
  exact Rep.ofV this
theorem Qzj:∀{ds:List D} {arr:Array Value} {off:Nat},Q32 c w ds arr off->Q32 (c.kill ks) w (D.kills ks ds) arr off
 |[],_,_,_=>trivial
 |_::_,_,_,⟨⟨v,hv,h1⟩,h2⟩=>⟨⟨v,hv,Qn0 h1⟩,Qzj h2⟩
theorem Z96{r:Nat}{row:Row}(h:Qol c w r row):Qol (c.kill ks) w r (row.kill ks):=by
 obtain⟨s1,s2,s3,s4⟩:=Q3f ks row
 rcases h with⟨h0,h1,h2,h3⟩|⟨h0,arr,ha,hs,hx⟩
 ·refine .inl ⟨h0,s1.trans h1,?_,by rw[s3];exact h3⟩
  rw[h2]at s4;exact fK s4
 ·refine .inr ⟨h0,arr,by rw[s2];exact ha,by rw[s3];exact hs,?_⟩
  rw[s1,s3]
  split
  ·rename_i hb
   simp only[hb,if_true]at hx
   obtain⟨e,k1,k2,k3,k4⟩:=hx
   obtain⟨box,ty,sz,es⟩:=row
   simp only at hb k1 k2 k3 k4
   subst hb;subst k1
   exact⟨D.kills ks e,rfl,by rw[Qrw];exact k2,k3,Qzj k4⟩
  ·rename_i hb
   simp only[hb,aN,if_false]at hx
   have he:(row.kill ks).es=row.es:=by
    unfold Row.kill
    split
    ·simp at hb
    ·rfl
   rw[he];exact hx
theorem Q2b{r:Nat}{x:Row}(h:(c.kill ks).R r=some x):memB r ks=false/\∃row,c.R r=some row/\x=row.kill ks:=by
 simp only[Ctx.kill]at h
 cases hb:memB r ks with
 |true=>rw[hb]at h;simp at h
 |false=>
  rw[hb]at h
  simp only[aN,if_false,fL]at h
  obtain⟨row,h1,h2⟩:=h
  exact⟨rfl,row,h1,h2.symm⟩
theorem Qhn(hm:Mem c w):Mem (c.kill ks) w:=by
 refine⟨λr x hx=>?_,λr s x y hx hy v1 v2 he=>?_,λb hb=>⟨(hm.imm b hb).1,λr x hx v=>?_⟩,hm.top,hm.tab⟩
 ·obtain⟨_,row,h1,rfl⟩:=Q2b hx
  exact Z96 (hm.row r row h1)
 ·obtain⟨_,row,h1,_⟩:=Q2b hx
  obtain⟨_,row',h2,_⟩:=Q2b hy
  exact hm.inj r s row row' h1 h2 v1 v2 he
 ·obtain⟨_,row,h1,_⟩:=Q2b hx
  exact(hm.imm b hb).2 r row h1 v
end
theorem Z9b:∀{l:List Nat},disB l []=true
 |[]=>rfl
 |x::l=>by simp only[disB,memB];exact Z9b
theorem Qxb(d:D):d.kill1 []=d:=by
 cases d with
 |clo f cs=>simp only[D.kill1,Z9b]
 |_=>rfl
theorem Qxf:∀{ds:List D},D.kills [] ds=ds
 |[]=>rfl
 |d::l=>by simp only[D.kills,Qxb,Qxf (ds:=l)]
theorem Qwe(row:Row):row.kill []=row:=by
 unfold Row.kill;split
 ·simp[Qxf]
 ·rfl
theorem xE(c:Ctx):c.kill []=c:=by
 obtain⟨ρ,R,V,I,base,top,X⟩:=c
 simp only[Ctx.kill,memB,aN,if_false]
 congr 1
 funext r
 cases R r<;>simp[Qwe]
theorem NxtW.toK{c c':Ctx}{w w':World}(h:NxtW c w c' w'):NxtK [] c w c' w':=
 ⟨h.mem,by rw[xE];exact h.grows,h.fr,λb hb=>(h.imm b hb).imp id .inr,λr row' h1 h2=>(h.rho r row' h1 h2).imp id .inr⟩
theorem Qjl{ks:List Nat}:∀{R:Rows} {i r:Nat},(Qip ks R i).getD r none=if memB (i+r) ks=true then none else(R.getD r none).map (Row.kill ks)
 |[],i,r=>by simp[Qip]
 |x::l,i,0=>by
  simp only[Qip,bH]
  cases memB i ks<;>cases x<;>simp
 |x::l,i,r+1=>by
  have:=Qjl (ks:=ks) (R:=l) (i:=i+1) (r:=r)
  rw[show i+1+r=i+(r+1) by omega]at this
  simpa[Qip]using this
theorem Q7g{ks:List Nat}:∀{R:Rows} {i:Nat},(Qip ks R i).length=R.length
 |[],_=>rfl
 |x::l,i=>by simp[Qip,Q7g (R:=l)]
def Q7l(ks:List Nat)(env:List (Nat×D)):List (Nat×D):=env.map λx=>(x.1,x.2.killV ks)
theorem Qep{ks:List Nat}:∀{env:List (Nat×D)} {K:List (Nat×D)->Prop},Z5e ks env K↔K (Q7l ks env)
 |[],_=>Iff.rfl
 |(t,d)::l,K=>by
  simp only[Z5e,D.force_iff]
  rw[Qep (env:=l) (K:=λl=>K ((t,d.killV ks)::l))]
  rfl
theorem Q7b{ks:List Nat}:∀{env:List (Nat×D)} {t:Nat},look (Q7l ks env) t=(look env t).killV ks
 |[],_=>rfl
 |(u,d)::l,t=>by
  simp only[Q7l,eJ,look]
  cases Nat.beq u t with
  |true=>rfl
  |false=>exact Q7b (env:=l)
theorem Qi4{P:Program}(w:World){t tx ty e:TypeId}{i:TypeInfo}{ux:TypeDesc}(ht:P.underlying t=some (.slice e))(hux:P.underlying tx=some ux)(hx:∀k,ux≠.int k)(hi:P.info? e=some i)
 {a:Option Addr} {n cap m:Nat} {x:Value} {news:List Value} (hl:(Builtin.lenOf x).run P w=.ok m w) (hf:(Builtin.firstCells i.size m x).run P w=.ok news.toArray w) (hroom:n+m<=cap) {w':World}
 (hst:∀b,a=some b->(storeCells (b.add (n*i.size)) news).run P w=.ok () w') (hno:a=none->w'=w):
 (Builtin.append_ #[t,tx] ty #[.slice a n cap,x]).run P w=.ok (.slice a (n+m) cap) w':=by
 have hz:(match ux with|.int _=>true|_=>false)=false:=by
  cases ux<;>first|rfl|exact absurd rfl (hx _)
 cases a with
 |none=>
  have:=hno rfl
  subst this
  simp[Builtin.append_,run_underlying ht,run_underlying hux,hz,sizeOf,typeInfo,hi,hl,hroom,hf]
 |some b=>simp[Builtin.append_,run_underlying ht,run_underlying hux,hz,sizeOf,typeInfo,hi,hl,hroom,hf,hst b rfl]
theorem Qi{P:Program}(w:World){t tx ty e:TypeId}{i:TypeInfo}{z:Value}{ux:TypeDesc}(ht:P.underlying t=some (.slice e))(hux:P.underlying tx=some ux)(hx:∀k,ux≠.int k)(hi:P.info? e=some i)(hz:i.zero=some z)
 {a:Option Addr} {n cap m:Nat} {x:Value} {olds news:List Value} (hl:(Builtin.lenOf x).run P w=.ok m w) (hf:(Builtin.firstCells i.size m x).run P w.drew=.ok news.toArray w.drew) (hfo:(Builtin.firstCells i.size n (.slice a n cap)).run P w.drew=.ok olds.toArray w.drew)
 (hg:cap<n+m) (h63:((n+m:Nat):Int)<=9223372036854775807) (hfit:Builtin.nextslicecap (n+m) cap*i.bytes<=281474976710656):
 (Builtin.append_ #[t,tx] ty #[.slice a n cap,x]).run P w=.ok (.slice (some ⟨w.heap.size,0,none⟩) (n+m) (grownCap w (n+m) cap e))
  (w.drew.alloc (.cells (olds.toArray++news.toArray++Builtin.zeroCells z.cells (grownCap w (n+m) cap e-(n+m))) e)):=by
 have hn:¬(n+m<=cap):=by omega
 have h63':¬(9223372036854775807<((n:Int)+(m:Int))):=by omega
 have h48':¬(281474976710656<Builtin.nextslicecap (n+m) cap*i.bytes):=by omega
 simp[Builtin.append_,run_underlying ht,run_underlying hux,sizeOf,typeInfo,zeroValue,hi,hz,hl,hn,h63',h48',Question.forced,hf,hfo,newRow,grownCap]
 congr 2
 apply cW
 simp[cP]
theorem qm{w:World}{b o:Nat}{arr:Array Value}{ty:TypeId}{fz:Nat×Nat}(h:w.heap[b]?=some (.cells arr ty fz))(j:Nat):w.cell? ((⟨b,o,none⟩:Addr).add j)=arr[o+j]? :=by
 rw[Qdd]
 unfold World.cell?
 simp[h]
theorem Qdn{I:Blocks}{w:World}{es:List (List D)}{arr:Array Value}{off sz:Nat}(h:Q15 I w es arr off sz)(h0:0<sz):∃news:List Value,news.length=es.length*sz/\(∀j u,news[j]?=some u->arr[off+j]?=some u)/\Q15 I w es news.toArray 0 sz:=by
 have hsz:es.length*sz<=arr.size-off:=by
  by_cases he:es.length=0
  ·rw[he];omega
  ·obtain⟨h1,h2⟩:=Q2u.1 h (es.length-1) (by omega)
   obtain⟨v,hv,_⟩:=Q31.1 h2 (sz-1) (by omega)
   have hlt:=(Array.getElem?_eq_some_iff.1 hv).1
   have:es.length*sz=(es.length-1)*sz+sz:=by
    rw[show es.length*sz=(es.length-1+1)*sz by congr 1;omega,aW]
   omega
 refine⟨(arr.toList.drop off).take (es.length*sz),by simp;omega,λj u hj=>?_,?_⟩
 ·rw[aU]at hj
  split at hj
  ·rw[cR]at hj
   simpa using hj
  ·cases hj
 ·rw[Q2u]at h⊢
  intro i hi
  obtain⟨h1,h2⟩:=h i hi
  refine⟨h1,?_⟩
  rw[Q31]at h2⊢
  intro j hj
  obtain⟨v,hv,hp⟩:=h2 j hj
  refine⟨v,?_,hp⟩
  have hlt:i*sz+j<es.length*sz:=by
   have:=aV sz (show i+1<=es.length by omega)
   rw[aW]at this
   omega
  simp only[aX,aY]
  rw[aU,if_pos hlt,cR,<-hv]
  simp[Nat.add_assoc]
theorem Q15.one{I:Blocks}{w:World}{es:List (List D)}{news:List Value}{sz:Nat}(h:Q15 I w es news.toArray 0 sz)(hl:news.length=es.length*sz):∀u∈news,u.oneCell'=true:=by
 intro u hu
 obtain⟨j,hj⟩:=List.getElem?_of_mem hu
 have hlt:=(List.getElem?_eq_some_iff.1 hj).1
 have h0:0<sz:=by
  rcases Nat.eq_zero_or_pos sz with h0|h0
  ·subst h0;simp at hl;rw[hl]at hlt;simp at hlt
  ·exact h0
 have hi:j/sz<es.length:=by rw[Nat.div_lt_iff_lt_mul h0];omega
 obtain⟨h1,h2⟩:=Q2u.1 h (j/sz) hi
 obtain⟨v,hv,hp⟩:=Q31.1 h2 (j%sz) (by rw[h1];exact Nat.mod_lt _ h0)
 have e:0+j/sz*sz+j%sz=j:=by rw[aX,dB];exact Nat.div_add_mod j sz
 rw[e,aY,hj]at hv
 cases hv
 exact PRep.one hp
theorem Z8a{I:Blocks}{w:World}(s:List UInt8):Q15 I w (Els.ints .u8 (Q6z s)).l (s.map λb=>Value.int .u8 b.toNat).toArray 0 1:=by
 rw[Q2u]
 intro i hi
 have hi':i<s.length:=by simpa[Q6z,Els.l]using hi
 have he:(Els.ints .u8 (Q6z s)).l.getD i []=[.int .u8 s[i].toNat]:=by simp[Q6z,Els.l,aK,hi']
 rw[he]
 refine⟨rfl,?_⟩
 simp only[Q6o,Q5,Q38,Q4u,Q4s,Q39,Q3c,Q4p,Q8n,Q5v,Q5w,Q61,Q9m,Q41,Q46,Q44,Q60,Q5z,and_true]
 exact⟨_,by simp[hi'],rfl⟩
def Src(P:Program)(c:Ctx)(w:World)(v:Value)(ys:List (List D))(sz:Nat):Prop:=
 ∃news:List Value,news.length=ys.length*sz/\(Builtin.lenOf v).run P w=.ok ys.length w/\(∀k,k<=ys.length->∀w',w'.heap=w.heap->(Builtin.firstCells sz k v).run P w'=.ok (news.take (k*sz)).toArray w')/\Q15 c.I w ys news.toArray 0 sz
theorem Qlz{P:Program}{c:Ctx}{w:World}{sz sy:Nat}(h0:0<sz){es:List (List D)}{a:Option Addr}{cap:Nat}(hes:es=[]\/sy=sz/\∃b off arr ty fz,a=some ⟨b,off,none⟩/\w.heap[b]?=some (.cells arr ty fz)/\Q15 c.I w es arr off sy):
 Src P c w (.slice a es.length cap) es sz:=by
 rcases hes with hes|⟨hss,b,off,arr,ty,fz,ha,hh,hE⟩
 ·subst hes
  refine⟨[],by simp,by simp[Builtin.lenOf],λk hk w' _=>?_,by simp[Q25,Q1u]⟩
  have hk0:k=0:=by simpa using hk
  subst hk0
  cases a with
  |none=>simp[Builtin.firstCells]
  |some a=>
   have:=run_firstCells_some (P:=P) w' sz 0 a 0 cap [] (by simp) (λj v h=>by simp at h)
   simpa using this
 ·subst hss
  obtain⟨news,g1,g2,g3⟩:=Qdn hE h0
  refine⟨news,g1,by simp[Builtin.lenOf],λk hk w' hw'=>?_,g3⟩
  subst ha
  refine run_firstCells_some (P:=P) w' sy k ⟨b,off,none⟩ _ cap (news.take (k*sy)) ?_ λj u hj=>?_
  ·have:=aV sy hk
   simp;omega
  ·rw[qm (by rw[hw'];exact hh)]
   rw[aU]at hj
   split at hj
   ·exact g2 j u hj
   ·cases hj
theorem qN{P:Program}{c:Ctx}{w:World}{R:Rows}{y:D}{v:Value}{sy sz:Nat}{ys:Els}(h0:0<sz)(h:srcOf R y=some (sy,ys))(hs:sy=sz\/ys.l=[])(hm:Mem c w)(hA:Q4w c R)(hr:Rep c w y v):Src P c w v ys.l sz:=by
 cases y<;>simp only[srcOf]at h<;>try(cases h;done)
 case nils=>cases h;rw[show v=_ from hr];exact Qlz (sy:=sz) h0 (es:=[]) (.inl rfl)
 case emp=>cases h;obtain⟨a,hv,_⟩:=hr;rw[hv];exact Qlz (sy:=sz) h0 (es:=[]) (.inl rfl)
 case sl s es fr=>
  cases h
  obtain⟨a,cap,hv,hc,hes⟩:=hr
  rw[hv]
  refine Qlz (sy:=sy) h0 ?_
  rcases hes with hes|⟨b,off,arr,ty,fz,ha,hI,hf,hh,hE⟩
  ·exact .inl hes
  ·rcases hs with hs|hs
   ·exact .inr ⟨hs,b,off,arr,ty,fz,ha,hh,hE⟩
   ·exact .inl hs
 case all r=>
  split at h
  ·rename_i ty s es hR
   cases h
   obtain⟨row,g1,g2,hv⟩:=hr
   have:=hA r row _ g1 hR
   subst this
   rcases hv with⟨hV,a,hv,_⟩|⟨hV,cap,arr,hv,g3,g4,g5,g6⟩
   ·have he:=(hm.virt g1 hV).2.1
    simp only at he
    rw[hv,he]
    exact Qlz (sy:=sz) h0 (es:=[]) (.inl rfl)
   ·obtain⟨arr',ha',hs',hx⟩:=hm.real g1 hV
    simp only at g5 ha' hx hv
    rw[g5]at ha';cases ha'
    simp only[aN,if_false]at hx
    rw[hv]
    refine Qlz (sy:=sy) h0 ?_
    rcases hs with hs|hs
    ·exact .inr ⟨hs,_,0,arr,_,_,rfl,g5,hx⟩
    ·exact .inl hs
  ·cases h
 case own r o n=>
  split at h
  ·rename_i ty s es hR
   cases h
   obtain⟨row,g1,g2,g5,hv⟩:=hr
   have:=hA r row _ g1 hR
   subst this
   simp only at g5
   have hlen:((es.l.drop o).take n).length=n:=by simp only[bD,bG];omega
   rw[Els.take_l,Els.drop_l]at hs⊢
   rcases hv with⟨g7,a,hv,_⟩|⟨hV,cap,arr,g3,g4,g6,hv,g7⟩
   ·subst g7
    rw[hv]
    have:=Qlz (P:=P) (c:=c) (w:=w) (sy:=sz) h0 (es:=(es.l.drop o).take 0) (a:=a) (cap:=0) (.inl (by simp))
    simpa using this
   ·obtain⟨arr',ha',hs',hx⟩:=hm.real g1 hV
    simp only at g6 ha' hx hv
    rw[g6]at ha';cases ha'
    simp only[aN,if_false]at hx
    have hE:=Qbg (n:=n) (Qba (l:=o) hx)
    have:=Qlz (P:=P) (c:=c) (w:=w) (sy:=sy) h0 (es:=(es.l.drop o).take n) (a:=some ⟨c.ρ r,o*sy,none⟩) (cap:=cap) (by
     rcases hs with hs|hs
     ·exact .inr ⟨hs,_,o*sy,arr,_,_,rfl,g6,by simpa using hE⟩
     ·exact .inl hs)
    rw[hlen]at this
    rw[hv];exact this
  ·cases h
theorem xN{P:Program}{c:Ctx}{w:World}{R:Rows}{ke kx:TK}{y:D}{v:Value}{sy sz:Nat}{ys:Els}(h0:0<sz)(h:srcT R ke kx y=some (sy,ys))(hs:sy=sz\/ys.l=[])(hm:Mem c w)(hA:Q4w c R)(hr:Rep c w y v):Src P c w v ys.l sz:=by
 unfold srcT at h
 split at h
 ·exact qN h0 h hs hm hA hr
 ·split at h
  ·rename_i s
   cases h
   have hv:=Rep.str.1 hr
   subst hv
   have hsz:(ByteArray.mk s.toArray).size=s.length:=by simp[ByteArray.size]
   have ext:∀k,((ByteArray.mk s.toArray).extract 0 k).data.toList=s.take k:=λk=>by
    simp[ByteArray.data_extract]
   have hf:∀k w',(Builtin.firstCells sz k (.string ⟨s.toArray⟩)).run P w'=.ok ((s.map λb=>Value.int .u8 b.toNat).take k).toArray w':=λk w'=>by
    simp only[Builtin.firstCells,Sem.run_pure]
    congr 1
    apply cW
    simp only[Array.toList_map,ext,List.map_take]
   rcases hs with hs|hs
   ·subst hs
    exact⟨s.map λb=>Value.int .u8 b.toNat,by simp[Q6z,Els.len],by simp[Builtin.lenOf,Q6z,Els.len,hsz],λk hk w' _=>by rw[hf];simp,Z8a s⟩
   ·have:s=[]:=by simpa[Q6z,Els.l]using hs
    subst this
    exact⟨[],by simp[Q6z,Els.len],by simp[Builtin.lenOf,Q6z,Els.len,hsz],λk hk w' _=>by rw[hf];simp,by simp[Q6z,Els.l,Q25,Q1u]⟩
  ·cases h
 ·cases h
def Ctx.addV(c:Ctx)(k:Nat)(row:Row):Ctx:={c with R:=λr=>if r=k then some row else c.R r,V:=λr=>r=k\/c.V r}
theorem Qkg{c:Ctx}{w:World}{k:Nat}(hk:c.R k=none)(row:Row):Q2n c w (c.addV k row) w:=by
 refine⟨rfl,aO _,λb hb=>⟨hb,rfl⟩,λr x hr=>?_⟩
 have hne:r≠k:=λe=>by rw[e,hk]at hr;cases hr
 exact⟨x,by simp[Ctx.addV,hne,hr],rfl,rfl,rfl,rfl,rfl,by simp[Ctx.addV,hne],λ_ arr ha=>⟨arr,ha,rfl⟩⟩
theorem Z1u{c:Ctx}{w:World}(hm:Mem c w){k:Nat}(hk:c.R k=none){row:Row}(hb:row.box=false)(he:row.es.l=[])(h0:0<row.sz):Mem (c.addV k row) w:=by
 have hg:=Qkg (w:=w) hk row
 have inv:∀r x,(c.addV k row).R r=some x->¬(c.addV k row).V r->c.R r=some x/\¬c.V r:=λr x hr hv=>by
  have h1:¬r=k:=λe=>hv (.inl e)
  exact⟨by simpa[Ctx.addV,h1]using hr,λe=>hv (.inr e)⟩
 refine⟨λr x hr=>?_,λr s x y hr hs v1 v2 h=>?_,λb hbI=>⟨(hm.imm b hbI).1,λr x hr v=>?_⟩,hm.top,hm.tab⟩
 ·by_cases e:r=k
  ·subst e
   simp only[Ctx.addV,if_true,Option.some.injEq]at hr
   subst hr
   exact .inl ⟨.inl rfl,hb,he,h0⟩
  ·have hr':c.R r=some x:=by simpa[Ctx.addV,e]using hr
   exact Q2a hg rfl (by simp[Ctx.addV,e]) (λ_=>rfl) (hm.row r x hr')
 ·obtain⟨h1,h2⟩:=inv r x hr v1
  obtain⟨h3,h4⟩:=inv s y hs v2
  exact hm.inj r s x y h1 h3 h2 h4 h
 ·obtain⟨h1,h2⟩:=inv r x hr v
  exact(hm.imm b hbI).2 r x h1 h2
theorem Q6n(c:Ctx)(w:World):Q2n c w c w.drew:=⟨rfl,aO _,λb hb=>⟨hb,rfl⟩,λr row hr=>⟨row,hr,rfl,rfl,rfl,rfl,rfl,Iff.rfl,λ_ arr ha=>⟨arr,ha,rfl⟩⟩⟩
theorem Q9h{c:Ctx}{w:World}(h:Mem c w):Mem c w.drew:=
 ⟨λr row hr=>Q2a (Q6n c w) rfl Iff.rfl (λ_=>rfl) (h.row r row hr),h.inj,h.imm,h.top,h.tab⟩
theorem Qb1{I:Blocks}{w:World}{es ys:List (List D)}{A B C:List Value}{sz:Nat}(h1:Q15 I w es A.toArray 0 sz)(hA:A.length=es.length*sz)(h2:Q15 I w ys B.toArray 0 sz)(hB:B.length=ys.length*sz):Q15 I w (es++ys) (A++B++C).toArray 0 sz:=by
 rw[Q2u]at h1 h2⊢
 intro i hi
 by_cases hlt:i<es.length
 ·have he:(es++ys).getD i []=es.getD i []:=by simp[aK,aZ hlt]
  rw[he]
  obtain⟨g1,g2⟩:=h1 i hlt
  refine⟨g1,?_⟩
  rw[Q31]at g2⊢
  intro j hj
  obtain⟨v,hv,hp⟩:=g2 j hj
  refine⟨v,?_,hp⟩
  have hl:=(Array.getElem?_eq_some_iff.1 hv).1
  simp only[aY,bA]at hv hl⊢
  rw[cP,aZ hl];exact hv
 ·have hi':i-es.length<ys.length:=by simp at hi;omega
  have he:(es++ys).getD i []=ys.getD (i-es.length) []:=by simp[aK,bB (show es.length<=i by omega)]
  rw[he]
  obtain⟨g1,g2⟩:=h2 _ hi'
  refine⟨g1,?_⟩
  rw[Q31]at g2⊢
  intro j hj
  obtain⟨v,hv,hp⟩:=g2 j hj
  refine⟨v,?_,hp⟩
  have hl:=(Array.getElem?_eq_some_iff.1 hv).1
  simp only[aY,bA]at hv hl⊢
  have e:0+i*sz+j=A.length+(0+(i-es.length)*sz+j):=by
   rw[hA,show i*sz=(es.length+(i-es.length))*sz by congr 1;omega,bC];omega
  rw[e,cP,bB (by omega),aZ (by omega)]
  rw[show A.length+(0+(i-es.length)*sz+j)-A.length=0+(i-es.length)*sz+j by omega]
  exact hv
theorem zE{c:Ctx}{w:World}(hm:Mem c w){r k:Nat}{row row':Row}{cur arr:Array Value}(hr:c.R r=some row)(hV:¬c.V r)(hk:c.R k=none)(hh:w.heap[c.ρ r]?=some (.cells cur row.ty (0,0)))(hty:row'.ty=row.ty)(h0:0<row'.sz)(hb:row'.box=false)
 (hE:∀w',(∀b,c.I b->w'.heap[b]?=w.heap[b]?)->Q15 c.I w' row'.es.l arr 0 row'.sz):
 Q2n (c.kill [r]) w ((c.kill [r]).add k row' (c.ρ r)) (w.setRow (c.ρ r) arr)/\Mem ((c.kill [r]).add k row' (c.ρ r)) (w.setRow (c.ρ r) arr):=by
 have hmk:=Qhn (ks:=[r]) hm
 have hkk:(c.kill [r]).R k=none:=by simp[Ctx.kill,hk]
 have hno:∀s x,(c.kill [r]).R s=some x->s≠r/\s≠k:=λs x hs=>by
  obtain⟨h1,row0,h2,_⟩:=Q2b hs
  refine⟨λe=>?_,λe=>by rw[e,hkk]at hs;cases hs⟩
  rw[e]at h1
  have:=Q2i (r:=r) (l:=[r])
  simp[h1]at this
 have hnew:(w.setRow (c.ρ r) arr).heap[c.ρ r]?=some (.cells arr row.ty (0,0)):=setRow_heap w _ _ _ _ _ hh
 have hoth:∀s x,(c.kill [r]).R s=some x->¬c.V s->(w.setRow (c.ρ r) arr).heap[c.ρ s]?=w.heap[c.ρ s]? :=λs x hs v=>setRow_other w _ _ _ λe=>by
  obtain⟨_,row0,h2,_⟩:=Q2b hs
  exact(hno s x hs).1 (hm.inj s r row0 row h2 hr v hV e)
 have hI:∀b,c.I b->(w.setRow (c.ρ r) arr).heap[b]?=w.heap[b]? :=λb hb=>setRow_other w _ _ _ (λe=>(hm.imm b hb).2 r row hr hV e.symm)
 have hg:Q2n (c.kill [r]) w ((c.kill [r]).add k row' (c.ρ r)) (w.setRow (c.ρ r) arr):=by
  refine⟨rfl,aO _,λb hb=>⟨hb,hI b hb⟩,λs x hs=>?_⟩
  obtain⟨n1,n2⟩:=hno s x hs
  exact⟨x,by simp[Ctx.add,n2,hs],rfl,rfl,rfl,rfl,by simp[Ctx.add,n2],by simp[Ctx.add,n2],λv a ha=>⟨a,(hoth s x hs v).trans ha,rfl⟩⟩
 have inv:∀s x,((c.kill [r]).add k row' (c.ρ r)).R s=some x->¬((c.kill [r]).add k row' (c.ρ r)).V s->(s=k/\((c.kill [r]).add k row' (c.ρ r)).ρ s=c.ρ r)\/(s≠k/\s≠r/\((c.kill [r]).add k row' (c.ρ r)).ρ s=c.ρ s/\¬c.V s/\∃y,c.R s=some y):=λs x hs v=>by
  by_cases e:s=k
  ·exact .inl ⟨e,by simp[Ctx.add,e]⟩
  ·have hs':(c.kill [r]).R s=some x:=by simpa[Ctx.add,e]using hs
   obtain⟨_,y,hy,_⟩:=Q2b hs'
   have v':¬c.V s:=λh=>v (by simp only[Ctx.add];exact⟨e,h⟩)
   exact .inr ⟨e,(hno s x hs').1,by simp[Ctx.add,e,Ctx.kill],v',y,hy⟩
 refine⟨hg,⟨λs x hs=>?_,λs q x y hs hq v1 v2 he=>?_,λb hbI=>?_,by show c.top<=(w.setRow _ _).heap.size;simpa[World.setRow]using hm.top,hm.tab.mono hg.I⟩⟩
 ·by_cases e:s=k
  ·subst e
   simp only[Ctx.add,if_true,Option.some.injEq]at hs
   subst hs
   refine .inr ⟨by simp[Ctx.add],arr,by simp only[Ctx.add,if_true];rw[hty];exact hnew,h0,?_⟩
   rw[hb]
   simp only[aN,if_false]
   exact hE _ hI
  ·have hs':(c.kill [r]).R s=some x:=by simpa[Ctx.add,e]using hs
   exact Q2a hg (by simp[Ctx.add,e]) (by simp[Ctx.add,e]) (λv=>hoth s x hs' v) (hmk.row s x hs')
 ·rcases inv s x hs v1 with⟨e1,p1⟩|⟨e1,p1,p2,p3,y1,p4⟩<;>rcases inv q y hq v2 with⟨e2,q1⟩|⟨e2,q1,q2,q3,y2,q4⟩
  ·rw[e1,e2]
  ·rw[p1,q2]at he
   exact(q1 (hm.inj q r y2 row q4 hr q3 hV he.symm)).elim
  ·rw[p2,q1]at he
   exact(p1 (hm.inj s r y1 row p4 hr p3 hV he)).elim
  ·rw[p2,q2]at he
   exact hm.inj s q y1 y2 p4 q4 p3 q3 he
 ·refine⟨by simpa[World.setRow]using(hm.imm b hbI).1,λs x hs v=>?_⟩
  rcases inv s x hs v with⟨e1,p1⟩|⟨e1,p1,p2,p3,y1,p4⟩
  ·rw[p1];exact(hm.imm b hbI).2 r row hr hV
  ·rw[p2];exact(hm.imm b hbI).2 s y1 p4 p3
def OpK(P:Program)(o:Oper)(ev:Operand->D)(R:Rows)(ks:List Nat)(val:D)(R':Rows):Prop:=
 ∀ (c:Ctx) (w:World) (a:Act),Mem c w->c.base<=w.heap.size->(∀r,c.R r=R.getD r none)->(∀x∈o.op.operands,Rep c w (ev x) (a.eval x))->
  ∀K Q,(∀v w' c',NxtK ks c w c' w'->(∀r,c'.R r=R'.getD r none)->Rep c' w' val v->K (a.put o.dst v) w')->o.wpR P a w K Q
theorem OpW.toK{P:Program}{o:Oper}{ev:Operand->D}{R:Rows}{val:D}{R':Rows}(h:OpW P o ev R val R'):OpK P o ev R [] val R':=
 λc w a hm hb hR hev K Q hK=>h c w a hm hb hR hev K Q λv w' c' hn hR' hv=>hK v w' c' hn.toK hR' hv
section
variable {P:Program} {c:Ctx} {w:World} {R:Rows} {ks:List Nat} {e sz by':Nat} {es ys:Els}
theorem Qto{row:Row}{ρ':Nat->Nat}{V':Nat->Prop}(hR:∀r,c.R r=R.getD r none):∀r,(if r=R.length then some row else(c.kill ks).R r)=(Qip ks R 0++[some row]).getD r none:=by
 intro r
 by_cases e:r=R.length
 ·subst e
  simp[aK,bB,Q7g]
 ·rw[if_neg e]
  by_cases hlt:r<R.length
  ·rw[aK,aZ (by rw[Q7g];exact hlt),<-aK,Qjl]
   simp[Ctx.kill,hR]
  ·rw[aK,aM (by simp[Q7g];omega)]
   simp[Ctx.kill,hR,aM (show R.length<=r by omega)]
theorem append_empty{t tx ty:TypeId}{i:TypeInfo}{z:Value}{ux:TypeDesc}(ht:P.underlying t=some (.slice e))(hux:P.underlying tx=some ux)(hx: ∀k,ux≠ .int k)(hi:P.info? e=some i)(hz:i.zero=some z)(hsz:i.size=sz)(hby:i.bytes=by')(hzs:z.cells.size=sz)
    (hm:Mem c w) (hb:c.base<=w.heap.size) (hR: ∀r,c.R r=R.getD r none) (h0:0<sz) (hb0:0<by') (hlim:by'*(0+ys.l.length)<=140737488355328) {a:Option Addr} (hoa:okA c.top a) {vy:Value} (hs:Src P c w vy ys.l sz):
    ∃v' w' c',(Builtin.append_ #[t,tx] ty #[.slice a 0 0,vy]).run P w= .ok v' w'/\NxtK ks c w c' w'/\(∀r,c'.R r=(Qip ks R 0++[some (⟨false,e,sz,ys⟩:Row)]).getD r none)/\Rep c' w' (.all R.length) v':=by
  obtain⟨news,g1,g2,g3,g4⟩:=hs
  have hk:c.R R.length=none:=by rw[hR];simp [aK]
  have hkk:(c.kill ks).R R.length=none:=by simp [Ctx.kill,hk]
  have hmk:=Qhn (ks:=ks) hm
  subst hsz
  by_cases hm0:ys.l.length=0
  . have hys:ys.l=[]:=fK hm0
    have hn:news=[]:=fK (by rw[g1,hm0];simp)
    subst hn
    rw[hys]at g2 g3
    have hrun:=Qi4 (P:=P) w (ty:=ty) (n:=0) (cap:=0) (a:=a) (w':=w) ht hux hx hi g2 (by simpa using g3 0 (aO _) w rfl) (by simp) (λb _=>by simp [storeCells]) (λ_=>rfl)
    refine⟨_,w,(c.kill ks).addV R.length ⟨false,e,i.size,ys⟩,hrun,⟨Z1u hmk hkk rfl hys h0,Qkg hkk _,Fr.refl _ w,λb hb=> .inl hb,λr row' h1 h2=> ?_⟩,Qto (ρ':=c.ρ) (V':=c.V) hR,?_⟩
    . have hne:r≠R.length:=λe=>h2 (.inl e)
      have h1':(c.kill ks).R r=some row':=by simpa [Ctx.addV,hne] using h1
      obtain⟨_,row0,h3,_⟩:=Q2b h1'
      exact .inl ⟨⟨row0,h3⟩,λe=>h2 (.inr e),rfl⟩
    . exact⟨⟨false,e,i.size,ys⟩,by simp [Ctx.addV],rfl, .inl ⟨.inl rfl,a,rfl,hoa⟩⟩
  . have hlen:(0+ys.l.length:Nat)*i.bytes<=140737488355328:=by rw[hby,dB];exact hlim
    have hl2:0+ys.l.length<=140737488355328:=bI (cU _ (by rw[hby];exact hb0)) hlen
    have hml:0+ys.l.length<=maxLen:=by unfold maxLen;omega
    have hrun:=Qi (P:=P) w (ty:=ty) (n:=0) (cap:=0) (a:=a) (olds:=[]) (news:=news) ht hux hx hi hz g2
      (by have:=g3 _ (aO _) w.drew rfl;rwa [dW (by omega)]at this)
      (by cases a with
          |none=>simp [Builtin.firstCells]
          |some a=>simpa using run_firstCells_some (P:=P) w.drew i.size 0 a 0 0 [] (by simp) (λj v h=>by simp at h)) (by omega) (by omega) (growslice_fits (by omega) hlen)
    have hge:=grownCap_ge w (0+ys.l.length) 0 e
    have hcm:grownCap w (0+ys.l.length) 0 e<=maxLen:=grownCap_le_maxLen w _ _ e hml
    generalize grownCap w (0+ys.l.length) 0 e=gc at hrun hge hcm
    have harr:(#[]++news.toArray++Builtin.zeroCells z.cells (gc-(0+ys.l.length))).size=gc*i.size:=by
      have e1:(#[]++news.toArray++Builtin.zeroCells z.cells (gc-(0+ys.l.length))).size=ys.l.length*i.size+(gc-(0+ys.l.length))*i.size:=by
        simp [size_zeroCells,hzs,g1]
      rw[e1,<-bC]
      congr 1;omega
    have hE: ∀(I:Blocks) (w':World),(∀b,c.I b->I b/\w'.heap[b]? =w.heap[b]?)->Q15 I w' ys.l (#[]++news.toArray++Builtin.zeroCells z.cells (gc-(0+ys.l.length))) 0 i.size:=λI w' h=>by
      have:=Qb1 (I:=I) (w:=w') (es:=[]) (ys:=ys.l) (A:=[]) (B:=news) (C:=(Builtin.zeroCells z.cells (gc-(0+ys.l.length))).toList) (sz:=i.size) (by simp [Q25,Q1u]) (by simp) (Q11 h _ _ _ _ g4) g1
      have h2:(#[]++news.toArray++Builtin.zeroCells z.cells (gc-(0+ys.l.length)))=([]++news++(Builtin.zeroCells z.cells (gc-(0+ys.l.length))).toList).toArray:=by apply cW;simp
      rw[h2];simpa using this
    have hal:=Mem.alloc (w:=w.drew) (Q9h hmk) hkk ⟨false,e,i.size,ys⟩ (#[]++news.toArray++Builtin.zeroCells z.cells (gc-(0+ys.l.length))) h0 (by
      simp only[aN,if_false]
      exact hE _ _ λb hb=>⟨hb,rfl⟩)
    have hrep:=Qwt (c:=c.kill ks) (w:=w.drew) (k:=R.length) (e:=e) (sz:=i.size) (cap:=gc) (es:=ys) (arr:= #[]++news.toArray++Builtin.zeroCells z.cells (gc-(0+ys.l.length))) (by omega) hcm harr.symm
    refine⟨_,_,(c.kill ks).add R.length ⟨false,e,i.size,ys⟩ w.heap.size,hrun,⟨hal,(Q6n _ w).trans (Q2n.alloc (w:=w.drew) (Q9h hmk) hkk _ _),?_,λb hb=> .inl hb,λr row' h1 h2=> ?_⟩,Qto (ρ':=c.ρ) (V':=c.V) hR,by have h3:=hrep;simp only[aX]at h3⊢;exact h3⟩
    . exact Fr.trans (w':=w.drew) ⟨rfl,rfl,rfl,aO _,λ_ _ _=>rfl⟩ (Fr.alloc _ w.drew _)
    . by_cases e1:r=R.length
      . subst e1
        right;right
        simp [Ctx.add]
      . have h1':(c.kill ks).R r=some row':=by simpa [Ctx.add,e1] using h1
        obtain⟨_,row0,h3,_⟩:=Q2b h1'
        exact .inl ⟨⟨row0,h3⟩,by simpa [Ctx.add,e1,Ctx.kill] using h2,by simp [Ctx.add,e1,Ctx.kill]⟩
theorem Z3v{t tx ty:TypeId}{i:TypeInfo}{z:Value}{ux:TypeDesc}(ht:P.underlying t=some (.slice e))(hux:P.underlying tx=some ux)(hx:∀k,ux≠.int k)(hi:P.info? e=some i)(hz:i.zero=some z)(hsz:i.size=sz)(hby:i.bytes=by')(hzs:z.cells.size=sz)
 (hm:Mem c w) (hb:c.base<=w.heap.size) (hR:∀r,c.R r=R.getD r none) (h0:0<sz) (hb0:0<by') (hlim:by'*(es.l.length+ys.l.length)<=140737488355328) {r:Nat} {row:Row} (q1:c.R r=some row) (hty:row.ty=e) (hV:¬c.V r) {cap:Nat} {cur:Array Value} (h1:es.l.length<=cap) (h2:cap<=maxLen) (h3:w.heap[c.ρ r]?=some (.cells cur e (0,0))) (h4:cap*sz=cur.size) (hE0:Q15 c.I w es.l cur 0 sz) {vy:Value} (hs:Src P c w vy ys.l sz):
 ∃v' w' c',(Builtin.append_ #[t,tx] ty #[.slice (some ⟨c.ρ r,0,none⟩) es.l.length cap,vy]).run P w=.ok v' w'/\NxtK [r] c w c' w'/\(∀q,c'.R q=(Qip [r] R 0++[some (⟨false,e,sz,es.app ys⟩:Row)]).getD q none)/\Rep c' w' (.all R.length) v':=by
 obtain⟨news,g1,g2,g3,g4⟩:=hs
 have hk:c.R R.length=none:=by rw[hR];simp[aK]
 have hkk:(c.kill [r]).R R.length=none:=by simp[Ctx.kill,hk]
 have hmk:=Qhn (ks:=[r]) hm
 subst hsz
 have hlen:(es.l.length+ys.l.length)*i.bytes<=140737488355328:=by rw[hby,dB];exact hlim
 have hl2:es.l.length+ys.l.length<=140737488355328:=bI (cU _ (by rw[hby];exact hb0)) hlen
 have hml:es.l.length+ys.l.length<=maxLen:=by unfold maxLen;omega
 obtain⟨olds,o1,o2,o3⟩:=Qdn hE0 h0
 by_cases hroom:es.l.length+ys.l.length<=cap
 ·have hfit:es.l.length*i.size+0+news.length<=cur.size:=by rw[g1,<-h4,bH,<-bC];exact aV _ hroom
  have hst:=run_storeCells_at (P:=P) (c.ρ r) (es.l.length*i.size) e news 0 cur w h3 hfit (Q15.one g4 g1)
  simp only[bH]at hst hfit
  have hrun:=Qi4 (P:=P) w (ty:=ty) (n:=es.l.length) (cap:=cap) (a:=some ⟨c.ρ r,0,none⟩) ht hux hx hi g2 (by have:=g3 _ (aO _) w rfl;rwa [dW (by omega)]at this) hroom (λb hb=>by cases hb;rw[Addr.add_lit,aX];exact hst) (λh=>by cases h)
  have hE:∀w',(∀b,c.I b->w'.heap[b]?=w.heap[b]?)->Q15 c.I w' (es.app ys).l (cur.toList.take (es.l.length*i.size)++news++cur.toList.drop (es.l.length*i.size+news.length)).toArray 0 i.size:=λw' h=>by
   rw[Els.app_l]
   refine Qb1 (A:=cur.toList.take (es.l.length*i.size)) (Q11 (λb hb=>⟨hb,h b hb⟩) _ _ _ _ ?_) (by rw[bD,show cur.toList.length=cur.size from rfl];omega) (Q11 (λb hb=>⟨hb,h b hb⟩) _ _ _ _ g4) g1
   have:cur.toList.take (es.l.length*i.size)=olds:=by
    apply List.ext_getElem?
    intro j
    by_cases hj:j<olds.length
    ·have:=o2 j _ (cI hj)
     rw[aU,if_pos (by omega),cI hj]
     simpa using this
    ·rw[aM (by rw[bD];omega),aM (by omega)]
   rw[this];exact o3
  obtain⟨k1,k2⟩:=zE hm (k:=R.length) (row':=⟨false,e,i.size,es.app ys⟩) q1 hV hk (by rw[hty];exact h3) hty.symm h0 rfl hE
  refine⟨_,_,_,hrun,⟨k2,k1,(Qc6 w _ _).mono λb _ hb=>⟨r,_,q1,hV,hb.symm⟩,λb hb=>.inl hb,λq row' p1 p2=>?_⟩,Qto (ρ':=c.ρ) (V':=c.V) hR,?_⟩
  ·by_cases e1:q=R.length
   ·subst e1
    exact .inr (.inl ⟨r,_,by simp[memB],q1,hV,by simp[Ctx.add]⟩)
   ·have h1':(c.kill [r]).R q=some row':=by simpa[Ctx.add,e1]using p1
    obtain⟨_,row0,h3',_⟩:=Q2b h1'
    exact .inl ⟨⟨row0,h3'⟩,by simpa[Ctx.add,e1,Ctx.kill]using p2,by simp[Ctx.add,e1,Ctx.kill]⟩
  ·refine⟨⟨false,e,i.size,es.app ys⟩,by simp[Ctx.add],rfl,.inr ⟨by simp[Ctx.add],cap,(cur.toList.take (es.l.length*i.size)++news++cur.toList.drop (es.l.length*i.size+news.length)).toArray,?_,by rw[Els.app_l,lA];exact hroom,h2,?_,?_⟩⟩
   ·simp only[Ctx.add,if_true,Els.app_l,lA]
   ·simp only[Ctx.add,if_true];exact setRow_heap w _ _ _ _ _ h3
   ·simp only[bA,lA,bD,bG,Array.length_toList]
    rw[h4];omega
 ·have hrun:=Qi (P:=P) w (ty:=ty) (n:=es.l.length) (cap:=cap) (a:=some ⟨c.ρ r,0,none⟩) (olds:=olds) (news:=news) ht hux hx hi hz g2
   (by have:=g3 _ (aO _) w.drew rfl;rwa [dW (by omega)]at this)
   (run_firstCells_some (P:=P) w.drew i.size es.l.length _ _ cap olds o1 λj v hj=>by
    rw[qm (w:=w.drew) h3];exact o2 j v hj) (by omega) (by omega) (growslice_fits (by omega) hlen)
  have hge:=grownCap_ge w (es.l.length+ys.l.length) cap e
  have hcm:grownCap w (es.l.length+ys.l.length) cap e<=maxLen:=grownCap_le_maxLen w _ _ e hml
  generalize grownCap w (es.l.length+ys.l.length) cap e=gc at hrun hge hcm
  have harr:(olds.toArray++news.toArray++Builtin.zeroCells z.cells (gc-(es.l.length+ys.l.length))).size=gc*i.size:=by
   have e1:(olds.toArray++news.toArray++Builtin.zeroCells z.cells (gc-(es.l.length+ys.l.length))).size=es.l.length*i.size+ys.l.length*i.size+(gc-(es.l.length+ys.l.length))*i.size:=by
    simp[size_zeroCells,hzs,g1,o1]
   rw[e1,<-bC,<-bC]
   congr 1;omega
  have hE:∀(I:Blocks) (w':World),(∀b,c.I b->I b/\w'.heap[b]?=w.heap[b]?)->Q15 I w' (es.app ys).l (olds.toArray++news.toArray++Builtin.zeroCells z.cells (gc-(es.l.length+ys.l.length))) 0 i.size:=λI w' h=>by
   rw[Els.app_l]
   have:=Qb1 (I:=I) (w:=w') (es:=es.l) (ys:=ys.l) (A:=olds) (B:=news) (C:=(Builtin.zeroCells z.cells (gc-(es.l.length+ys.l.length))).toList) (sz:=i.size) (Q11 h _ _ _ _ o3) o1 (Q11 h _ _ _ _ g4) g1
   have h2:(olds.toArray++news.toArray++Builtin.zeroCells z.cells (gc-(es.l.length+ys.l.length)))=(olds++news++(Builtin.zeroCells z.cells (gc-(es.l.length+ys.l.length))).toList).toArray:=by apply cW;simp
   rw[h2];exact this
  have hal:=Mem.alloc (w:=w.drew) (Q9h hmk) hkk ⟨false,e,i.size,es.app ys⟩ (olds.toArray++news.toArray++Builtin.zeroCells z.cells (gc-(es.l.length+ys.l.length))) h0 (by
   simp only[aN,if_false]
   exact hE _ _ λb hb=>⟨hb,rfl⟩)
  have hrep:=Qwt (c:=c.kill [r]) (w:=w.drew) (k:=R.length) (e:=e) (sz:=i.size) (cap:=gc) (es:=es.app ys) (arr:=olds.toArray++news.toArray++Builtin.zeroCells z.cells (gc-(es.l.length+ys.l.length))) (by rw[Els.app_l,lA];omega) hcm harr.symm
  refine⟨_,_,(c.kill [r]).add R.length ⟨false,e,i.size,es.app ys⟩ w.heap.size,hrun,⟨hal,(Q6n _ w).trans (Q2n.alloc (w:=w.drew) (Q9h hmk) hkk _ _),?_,λb hb=>.inl hb,λq row' p1 p2=>?_⟩,Qto (ρ':=c.ρ) (V':=c.V) hR,by rw[Els.app_l,lA]at hrep;exact hrep⟩
  ·exact Fr.trans (w':=w.drew) ⟨rfl,rfl,rfl,aO _,λ_ _ _=>rfl⟩ (Fr.alloc _ w.drew _)
  ·by_cases e1:q=R.length
   ·subst e1
    right;right
    simp[Ctx.add]
   ·have h1':(c.kill [r]).R q=some row':=by simpa[Ctx.add,e1]using p1
    obtain⟨_,row0,h3',_⟩:=Q2b h1'
    exact .inl ⟨⟨row0,h3'⟩,by simpa[Ctx.add,e1,Ctx.kill]using p2,by simp[Ctx.add,e1,Ctx.kill]⟩
theorem Zbk{t tx ty:TypeId}{i:TypeInfo}{z:Value}{ux:TypeDesc}(ht:P.underlying t=some (.slice e))(hux:P.underlying tx=some ux)(hx:∀k,ux≠.int k)(hi:P.info? e=some i)(hz:i.zero=some z)(hsz:i.size=sz)(hby:i.bytes=by')(hzs:z.cells.size=sz)
 (hm:Mem c w) (hb:c.base<=w.heap.size) (hR:∀r,c.R r=R.getD r none) (h0:0<sz) (hb0:0<by') (hlim:by'*(es.l.length+ys.l.length)<=140737488355328) {r:Nat} (hr:R.getD r none=some ⟨false,e,sz,es⟩) {vx vy:Value} (hvx:Rep c w (.all r) vx) (hs:Src P c w vy ys.l sz):
 ∃v' w' c',(Builtin.append_ #[t,tx] ty #[vx,vy]).run P w=.ok v' w'/\NxtK [r] c w c' w'/\(∀q,c'.R q=(Qip [r] R 0++[some (⟨false,e,sz,es.app ys⟩:Row)]).getD q none)/\Rep c' w' (.all R.length) v':=by
 obtain⟨row,q1,q2,hv⟩:=hvx
 have hrow:row=⟨false,e,sz,es⟩:=by rw[hR,hr]at q1;exact(Option.some.inj q1).symm
 subst hrow
 rcases hv with⟨hV,a,hv,hoa⟩|⟨hV,cap,cur,hv,h1,h2,h3,h4⟩
 ·have he:=(hm.virt q1 hV).2.1
  simp only at he
  subst hv
  have hl:(es.app ys).l=ys.l:=by rw[Els.app_l,he];rfl
  exact append_empty (ks:=[r]) (ys:=es.app ys) ht hux hx hi hz hsz hby hzs hm hb hR h0 hb0 (by rw[hl];rw[he]at hlim;simpa using hlim) hoa (by rw[hl];exact hs)
 ·have hl:=hm.real q1 hV
  obtain⟨cur',ha',_,hE0⟩:=hl
  simp only at h1 h3 h4 hv ha'
  subst hv
  rw[h3]at ha';cases ha'
  simp only[aN,if_false]at hE0
  exact Z3v ht hux hx hi hz hsz hby hzs hm hb hR h0 hb0 hlim q1 rfl hV h1 h2 h3 h4 hE0 hs
theorem Zc1{n:Nat}{t tx ty:TypeId}{i:TypeInfo}{z:Value}{ux:TypeDesc}(ht:P.underlying t=some (.slice e))(hux:P.underlying tx=some ux)(hx:∀k,ux≠.int k)(hi:P.info? e=some i)(hz:i.zero=some z)(hsz:i.size=sz)(hby:i.bytes=by')(hzs:z.cells.size=sz)
 (hm:Mem c w) (hb:c.base<=w.heap.size) (hR:∀r,c.R r=R.getD r none) (h0:0<sz) (hb0:0<by') (hlim:by'*((es.take n).l.length+ys.l.length)<=140737488355328) {r:Nat} (hr:R.getD r none=some ⟨false,e,sz,es⟩) {vx vy:Value} (hvx:Rep c w (.own r 0 n) vx) (hs:Src P c w vy ys.l sz):
 ∃v' w' c',(Builtin.append_ #[t,tx] ty #[vx,vy]).run P w=.ok v' w'/\NxtK [r] c w c' w'/\(∀q,c'.R q=(Qip [r] R 0++[some (⟨false,e,sz,(es.take n).app ys⟩:Row)]).getD q none)/\Rep c' w' (.all R.length) v':=by
 obtain⟨row,q1,q2,hle,hv⟩:=hvx
 have hrow:row=⟨false,e,sz,es⟩:=by rw[hR,hr]at q1;exact(Option.some.inj q1).symm
 subst hrow
 have hln:(es.take n).l.length=n:=by rw[Els.take_l,bD];simp only at hle;omega
 rcases hv with⟨h0',a,hv,hoa⟩|⟨hV,cap,cur,h1,h2,h3,hv,h4⟩
 ·subst hv;subst h0'
  have hz0:(es.take 0).l=[]:=by rw[Els.take_l];rfl
  have hl:((es.take 0).app ys).l=ys.l:=by rw[Els.app_l,hz0];rfl
  have g:Q2n c w {c with top:=w.heap.size} w:=⟨rfl,hm.top,λb hb=>⟨hb,rfl⟩,λr row hr=>⟨row,hr,rfl,rfl,rfl,rfl,rfl,Iff.rfl,λnv arr ha=>⟨arr,ha,rfl⟩⟩⟩
  have hm1:Mem {c with top:=w.heap.size} w:=⟨λr row hr=>Q2a g rfl Iff.rfl (λ_=>rfl) (hm.row r row hr),hm.inj,hm.imm,aO _,hm.tab⟩
  have ho1:okA w.heap.size a:=by
   rcases hoa with h|⟨hV,h⟩
   ·exact h.mono hm.top
   ·exactλx hx=>by rw[h x hx];exact hm.lt q1 hV
  obtain⟨v',w',c',p1,p2,p3,p4⟩:=append_empty (c:={c with top:=w.heap.size}) (ks:=[r]) (ys:=(es.take 0).app ys) ht hux hx hi hz hsz hby hzs hm1 hb hR h0 hb0 (by rw[hl];rw[hz0]at hlim;simpa using hlim) ho1 (by rw[hl];exact hs)
  refine⟨v',w',c',p1,⟨p2.mem,?_,p2.fr,p2.imm,p2.rho⟩,p3,p4⟩
  have g':Q2n (c.kill [r]) w (Ctx.kill {c with top:=w.heap.size} [r]) w:=⟨rfl,hm.top,λb hb=>⟨hb,rfl⟩,λr row hr=>⟨row,hr,rfl,rfl,rfl,rfl,rfl,Iff.rfl,λnv arr ha=>⟨arr,ha,rfl⟩⟩⟩
  exact g'.trans p2.grows
 ·obtain⟨cur',ha',_,hE0⟩:=hm.real q1 hV
  simp only at h3 h4 hv ha'
  rw[h3]at ha';cases ha'
  simp only[aN,if_false]at hE0
  have hE1:Q15 c.I w (es.take n).l cur 0 sz:=by rw[Els.take_l];exact Qbg hE0
  rw[hv,show((0:Nat)*sz)=0 from Nat.zero_mul _]
  have:=Z3v (ty:=ty) (es:=es.take n) (cap:=cap) ht hux hx hi hz hsz hby hzs hm hb hR h0 hb0 hlim q1 rfl hV (by rw[hln];exact h1) h2 h3 (by rw[<-h4,aX]) hE1 hs
  rw[hln]at this
  exact this
end
theorem Z36{E:Els}(h:Z87 E=true):E.l=[]:=by
 unfold Z87 at h
 split at h
 ·rfl
 ·cases h
theorem Z9y{P:Program}{T:Tab}(hT:Q34 P T){M:Nat}{t tx ty:TypeId}{x y:D}{R:Rows}{K:List Nat->D->Rows->Prop}(h:Zc T M t tx x y R K):
    ∃ ks R',K ks (.all R.length) R'/\(∀k,memB k ks=true->M<=k)/\ ∀c w vx vy,Mem c w->c.base<=w.heap.size->(∀r,c.R r=R.getD r none)->Rep c w x vx->Rep c w y vy->
      ∃v' w' c',(Builtin.append_ #[t,tx] ty #[vx,vy]).run P w= .ok v' w'/\NxtK ks c w c' w'/\(∀r,c'.R r=R'.getD r none)/\Rep c' w' (.all R.length) v':=by
  unfold Zc at h
  split at h
  . rename_i e esz _ _ _ _ _ ht
    have hk:=Q1q hT ht
    simp only at hk
    split at h
    . rename_i ke sz by' cs z q kx _ _ _ _ _ he htx
      obtain⟨i,u,hi,hu,hzz,hs,hb,hc,hzero⟩:=Qbu hT he
      have hkx:=Q1q hT htx
      split at h
      . rename_i sy ys hsrc
        simp only[Q02,aE,Bool.or_eq_true]at h
        obtain⟨⟨⟨⟨h0,h1⟩,h2,h3⟩,h4,h5⟩,h⟩:=h
        have h0:0<sz:=lE h0
        have hb0:0<by':=lE h4
        have h2:=bE h2
        have h5:sy=sz\/ys.l=[]:=h5.imp bE Z36
        have hus:u.cells.size=sz:=by have:=Q81 hzz;simp at this;omega
        obtain⟨ux,hux,hnx⟩: ∃ux,P.underlying tx=some ux/\ ∀k,ux≠ .int k:=by
          unfold srcT at hsrc
          split at hsrc
          . simp only at hkx;exact⟨_,hkx.1,λk e=>by cases e⟩
          . simp only at hkx;exact⟨_,hkx,λk e=>by cases e⟩
          . cases hsrc
        have hsrc': ∀(c:Ctx) (w:World) (vy:Value),Mem c w->(∀r,c.R r=R.getD r none)->Rep c w y vy->Src P c w vy ys.l sz:=λc w vy hm hR hy=>xN h0 hsrc h5 hm (λr row row' g1 g2=>by rw[hR,g2]at g1;exact(Option.some.inj g1).symm) hy
        cases x<;>simp only at h
        case nils=>
          simp only[Qtw,Q02,decide_eq_true_eq,Q1h,<-Els.len_l]at h
          refine⟨_,_,h.2,λk hk=>by simp [memB]at hk,λc w vx vy hm hb' hR hx hy=> ?_⟩
          rw[show vx=_ from hx]
          have hl:((Els.gen []).app ys).l=ys.l:=by rw[Els.app_l];rfl
          exact append_empty (ks:=[]) (ys:=(Els.gen []).app ys) hk.1 hux hnx hi hu hs hb hus hm hb' hR h0 hb0 (by rw[hl];have:=h.1;simpa [Els.l] using this) Qmq (by rw[hl];exact hsrc' c w vy hm hR hy)
        case emp=>
          simp only[Qtw,Q02,decide_eq_true_eq,Q1h,<-Els.len_l]at h
          refine⟨_,_,h.2,λk hk=>by simp [memB]at hk,λc w vx vy hm hb' hR hx hy=> ?_⟩
          obtain⟨a,hx,hoa⟩:=hx
          rw[hx]
          have hl:((Els.gen []).app ys).l=ys.l:=by rw[Els.app_l];rfl
          exact append_empty (ks:=[]) (ys:=(Els.gen []).app ys) hk.1 hux hnx hi hu hs hb hus hm hb' hR h0 hb0 (by rw[hl];have:=h.1;simpa [Els.l] using this) hoa (by rw[hl];exact hsrc' c w vy hm hR hy)
        case all r=>
          split at h
          . rename_i ty' s es hr
            simp only[aE,Qtw,Q02,decide_eq_true_eq,Q1h,<-Els.len_l]at h
            obtain⟨⟨⟨g1,g2⟩,g3⟩,g5,g6⟩:=h
            have g1:=bE g1
            have g2:=bE g2
            subst g1;subst g2
            refine⟨_,_,g6,λk hk=> ?_,λc w vx vy hm hb' hR hx hy=> ?_⟩
            . have:=Q2i.1 hk
              simp at this
              rw[this];exact lE g3
            . exact Zbk hk.1 hux hnx hi hu hs hb hus hm hb' hR h0 hb0 g5 hr hx (hsrc' c w vy hm hR hy)
          . exact h.elim
        case own r o n=>
          split at h
          . rename_i ty' s es hr
            simp only[aE,Qtw,Q02,decide_eq_true_eq,Q1h,<-Els.len_l]at h
            obtain⟨⟨⟨g1,g2⟩,g3,g4⟩,g5,g6⟩:=h
            have g1:=bE g1
            have g2:=bE g2
            have g4:=bE g4
            subst g1;subst g2;subst g4
            refine⟨_,_,g6,λk hk=> ?_,λc w vx vy hm hb' hR hx hy=> ?_⟩
            . have:=Q2i.1 hk
              simp at this
              rw[this];exact lE g3
            . exact Zc1 hk.1 hux hnx hi hu hs hb hus hm hb' hR h0 hb0 g5 hr hx (hsrc' c w vy hm hR hy)
          . exact h.elim
      . exact h.elim
    . exact h.elim
  . exact h.elim
theorem Qwf{c:Ctx}{w:World}{d:D}{v:Value}(hne:∀f cs,d≠.clo f cs)(h:CRep c w d v):CRep {c with base:=0} w d v:=by
 cases d with
 |sl sz es fr=>
  obtain⟨a,cap,hv,hc,hes⟩:=h
  refine⟨a,cap,hv,hc,?_⟩
  rcases hes with hes|⟨b,off,arr,ty,fz,ha,hI,hf,hh,hE⟩
  ·exact .inl hes
  ·exact .inr ⟨b,off,arr,ty,fz,ha,hI,λ_=>Nat.zero_le _,hh,hE⟩
 |clo f cs=>exact absurd rfl (hne f cs)
 |_=>exact h
theorem Qpq{c:Ctx}{w:World}{d:D}{v:Value}(h:CRep c w d v):CRep {c with base:=0} w d v:=by
 by_cases e:∃g cs,d=.clo g cs
 ·obtain⟨g,cs,rfl⟩:=e
  obtain⟨us,hv,hu⟩:=h
  exact⟨us,hv,Qtv (c:=c) (w:=w) (c':={c with base:=0}) (w':=w) (S:=λ_=>True) (λd v q1 _ q2=>Qwf q1 q2) (λ_ hb=>⟨hb,rfl⟩) (λ_ _=>trivial) hu⟩
 ·exact Qwf (λf cs e'=>e ⟨f,cs,e'⟩) h
theorem Qw4{c:Ctx}{w:World}:∀{ds:List D} {vs:List Value},Q2y c w ds vs->Q2y {c with base:=0} w ds vs
 |[],[],_=>trivial
 |_::_,_::_,h=>⟨Qpq h.1,Qw4 h.2⟩
 |[],_::_,h=>h.elim
 |_::_,[],h=>h.elim
theorem Z0t{c:Ctx}{w:World}{d:D}{v:Value}(h:VRep c w d v):VRep {c with base:=0} w d v:=by
 cases d with
 |agg cs=>obtain⟨vs,hv,hr⟩:=h;exact⟨vs,hv,Qw4 hr⟩
 |_=>exact VRep.ofC (Qpq (VRep.toC (λcs e=>by cases e) h))
theorem Qmc{c:Ctx}{w:World}:∀{ds:List D} {vs:List Value},Q5p c w ds vs->Q5p {c with base:=0} w ds vs
 |[],[],_=>trivial
 |_::_,_::_,h=>⟨Z0t h.1,Qmc h.2⟩
 |[],_::_,h=>h.elim
 |_::_,[],h=>h.elim
theorem Qr2{c:Ctx}{w:World}:∀{ds:List D} {arr:Array Value} {off:Nat},Q32 c w ds arr off->Q32 {c with base:=0} w ds arr off
 |[],_,_,_=>trivial
 |_::_,_,_,⟨⟨v,hv,h1⟩,h2⟩=>⟨⟨v,hv,Qpq h1⟩,Qr2 h2⟩
theorem Z3x{c:Ctx}{w:World}(h:Mem c w):Mem {c with base:=0} w:=by
 refine⟨λr row hr=>?_,h.inj,h.imm,h.top,h.tab⟩
 rcases h.row r row hr with h0|⟨h0,arr,ha,hs,hx⟩
 ·exact .inl h0
 ·refine .inr ⟨h0,arr,ha,hs,?_⟩
  split
  ·rename_i hb
   rw[if_pos hb]at hx
   obtain⟨e,k1,k2,k3,k4⟩:=hx
   exact⟨e,k1,k2,k3,Qr2 k4⟩
  ·rename_i hb
   rw[if_neg hb]at hx
   exact hx
theorem Qrs{f:Nat->Nat}:∀{ids:List Nat} {rows:List Row} {R:Rows},ids.Nodup->ids.length<=rows.length->(∀r∈ids,r<R.length)->
 (Qdh f ids rows R).length=R.length/\(∀(i r:Nat),ids[i]?=some r->∃row,rows[i]?=some row/\(Qdh f ids rows R).getD r none=some (row.ren f false))/\∀r,r∉ids->(Qdh f ids rows R).getD r none=R.getD r none
 |[],rows,R,_,_,_=>by
  have:Qdh f [] rows R=R:=by cases rows<;>rfl
  rw[this]
  exact⟨rfl,λi r h=>by simp at h,λ_ _=>rfl⟩
 |r::ids,[],R,_,hl,_=>by simp at hl
 |r ::ids,row::rows,R,hnd,hl,hlt=>by
  obtain⟨hni,hnd'⟩:=List.nodup_cons.1 hnd
  obtain⟨g1,g2,g3⟩:=Qrs (f:=f) (ids:=ids) (rows:=rows) (R:=R.set r (some (row.ren f false))) hnd' (by simpa using hl) (λq hq=>by simpa using hlt q (by simp[hq]))
  have hr:=hlt r (by simp)
  have hat:(R.set r (some (row.ren f false))).getD r none=some (row.ren f false):=by simp[aK,hr]
  have hne:∀q,q≠r->(R.set r (some (row.ren f false))).getD q none=R.getD q none:=λq hq=>by simp[aK,List.getElem?_set_ne (Ne.symm hq)]
  simp only[Qdh]
  refine⟨by simpa using g1,λi q hq=>?_,λq hq=>?_⟩
  ·cases i with
   |zero=>
    simp at hq;subst hq
    exact⟨row,rfl,by rw[g3 _ hni];exact hat⟩
   |succ i=>simpa using g2 i q (by simpa using hq)
  ·have h1:q≠r:=λe=>hq (by simp[e])
   rw[g3 q (λe=>hq (by simp[e])),hne q h1]
def Ctx.behindK(c:Ctx)(c':Ctx)(kl n0:Nat)(R2:Rows):Ctx:=
 { ρ:=λr=>if n0<=r/\r<R2.length then c'.ρ (kl+(r-n0)) else c.ρ r,
   R:=λr=>R2.getD r none,
   V:=λr=>if n0<=r/\r<R2.length then c'.V (kl+(r-n0)) else c.V r,
   I:=c'.I,base:=c.base,top:=c'.top,X:=c.X}
theorem Qb6{i k n:Nat}:memB i (bL k n)=true↔k<=i/\i<k+n:=by
 rw[Q2i,List.mem_range'_1]
theorem Z0p{c c':Ctx}{w w':World}{R:Rows}{ids:List Nat}{k:Nat}{crows rows':List Row}(hm:Mem c w)(hR:∀r,c.R r=R.getD r none)
 (hnd:ids.Nodup) (hrows:Qif R (λr=>pos r ids 0) ids=some crows) (hle:(ids.take k).length<=rows'.length)
 (hx:NxtK (bL k (crows.length-k)) {c.pass w ids crows false with base:=0} w c' w') (hR':∀i,c'.R i=rows'[i]?)
 {R2:Rows} (hR2:R2=Qdh (bk (ids.take k) R.length) (ids.take k) rows' (Qip (ids.drop k) R 0)++Qn (bk (ids.take k) R.length) (rows'.drop (ids.take k).length)):
 Qyt (λ_=>True) (bk (ids.take k) R.length) false c' (c.behindK c' (ids.take k).length R.length R2)/\
 NxtK (ids.drop k) c w (c.behindK c' (ids.take k).length R.length R2) w':=by
 obtain⟨hcl,hcg⟩:=Q8g hrows
 generalize hf:bk (ids.take k) R.length=f at*
 generalize hkl:(ids.take k).length=kl at*
 have hRi:∀r row,R.getD r none=some row->c.R r=some row:=λr row e=>by rw[hR];exact e
 have hlt:∀r∈ids,r<R.length:=λr hr=>by
  obtain⟨row,h1,_⟩:=hcg _ r (Qck hr)
  by_cases hl:r<R.length
  ·exact hl
  ·rw[aK,aM (by omega)]at h1;cases h1
 have htd:ids.take k++ids.drop k=ids:=List.take_append_drop k ids
 have hndk:(ids.take k).Nodup:=by rw[<-htd]at hnd;exact(List.nodup_append.1 hnd).1
 have hdisj:∀r,r∈ids.take k->r∈ids.drop k->False:=λr h1 h2=>by
  rw[<-htd]at hnd
  exact(List.nodup_append.1 hnd).2.2 r h1 r h2 rfl
 have hkl':kl=min k ids.length:=by rw[<-hkl];simp
 have hkget:∀i,i<kl->(ids.take k)[i]?=ids[i]? :=λi hi=>by rw[aU,if_pos (by omega)]
 have hgget:∀i r,ids[i]?=some r->kl<=i->r∈ids.drop k:=λi r hi hge=>by
  have hlt':=(List.getElem?_eq_some_iff.1 hi).1
  have:(ids.drop k)[i-k]?=some r:=by rw[cR,show k+(i-k)=i by omega];exact hi
  exact fM this
 obtain⟨k1,k2,k3⟩:=Qrs (f:=f) (ids:=ids.take k) (rows:=rows') (R:=Qip (ids.drop k) R 0) hndk (by rw[hkl];exact hle) (λr hr=>by rw[Q7g];exact hlt r (eS hr))
 rw[Q7g]at k1
 have hlen2:R2.length=R.length+(rows'.length-kl):=by rw[hR2];simp[k1,Qn]
 have hlo:∀r,r<R.length->R2.getD r none=(Qdh f (ids.take k) rows' (Qip (ids.drop k) R 0)).getD r none:=λr hr=>by
  rw[hR2,aK,aK,aZ (by omega)]
 have hhi:∀i,kl<=i->i<rows'.length->R2.getD (R.length+(i-kl)) none=rows'[i]?.map λrow=>row.ren f false:=λi h1 h2=>by
  have:∀(l:List Row) (j:Nat),(Qn f l)[j]?=l[j]?.map λrow=>some (row.ren f false):=λl j=>by simp[Qn]
  rw[hR2,aK,bB (by omega),this,k1,show R.length+(i-kl)-R.length=i-kl by omega,cR,show kl+(i-kl)=i by omega]
  rw[cI h2];rfl
 have old:∀i r row',i<kl->ids[i]?=some r->c'.R i=some row'->∃row,c.R r=some row/\row'.box=row.box/\row'.ty=row.ty/\row'.sz=row.sz/\row'.es.l.length=row.es.l.length/\c'.ρ i=c.ρ r/\(c'.V i↔c.V r)/\r<R.length/\R2.getD r none=some (row'.ren f false)/\f i=r/\
  (¬c.V r->∀arr,w.heap[c.ρ r]?=some (.cells arr row.ty (0,0))->∃arr',w'.heap[c.ρ r]?=some (.cells arr' row.ty (0,0))/\arr'.size=arr.size):=by
  intro i r row' hik hi hrow'
  obtain⟨row,h1,h2⟩:=hcg i r hi
  have hm':=fM hi
  have h3:=hRi r row h1
  have hkill:(({c.pass w ids crows false with base:=0}:Ctx).kill (bL k (crows.length-k))).R i=some ((row.ren (λr=>pos r ids 0) false).kill (bL k (crows.length-k))):=by
   simp only[Ctx.kill,Ctx.pass]
   rw[if_neg (λe=>by have:=Qb6.1 e;omega),h2];rfl
  obtain⟨row'',g1,g2,g3,g4,g5,g6,gV,g7⟩:=hx.grows.R i _ hkill
  rw[hrow']at g1;cases g1
  obtain⟨s1,s2,s3,s4⟩:=Qe4 (λr=>pos r ids 0) false row
  obtain⟨t1,t2,t3,t4⟩:=Q3f (bL k (crows.length-k)) (row.ren (λr=>pos r ids 0) false)
  have hi':=(hkget i hik).trans hi
  obtain⟨row3,q1,q2⟩:=k2 i r hi'
  rw[hR',q1]at hrow';cases hrow'
  refine⟨row,h3,g2.trans (t1.trans s1),g3.trans (t2.trans s2),g4.trans (t3.trans s3),g5.trans (t4.trans s4),by simpa[Ctx.kill,Ctx.pass,hi]using g6,by simpa[Ctx.kill,Ctx.pass,hi]using gV,hlt r hm',by rw[hlo r (hlt r hm')];exact q2,by rw[<-hf];simp[bk,hi'],λnv arr ha=>?_⟩
  have:=g7 (by simpa[Ctx.kill,Ctx.pass,hi]using nv) arr (by simpa[Ctx.kill,Ctx.pass,hi,s2,t2]using ha)
  simpa[Ctx.kill,Ctx.pass,hi,s2,t2]using this
 have blk:∀i row',c'.R i=some row'->¬c'.V i->(∃j s row,ids[j]?=some s/\c.R s=some row/\¬c.V s/\c'.ρ i=c.ρ s/\(i<kl->j=i)/\(kl<=i->s∈ids.drop k))\/w.heap.size<=c'.ρ i:=by
  intro i row' h1 nv
  by_cases hik:i<kl
  ·have hi':ids[i]?=some ids[i]:=cI (by omega)
   obtain⟨row,g1,g2,g3,g4,g5,g6,g7,_⟩:=old i _ row' hik hi' h1
   exact .inl ⟨i,_,row,hi',g1,λe=>nv (g7.2 e),g6,λ_=>rfl,λh=>by omega⟩
  ·rcases hx.rho i row' h1 nv with⟨⟨x,hx1⟩,v,e⟩|⟨s,x,hs,hx1,v,e⟩|e
   ·have hx2:crows[i]?=some x:=hx1
    have hli:=(List.getElem?_eq_some_iff.1 hx2).1
    have hi':ids[i]?=some ids[i]:=cI (by omega)
    obtain⟨row,g1,g2⟩:=hcg i _ hi'
    exact .inl ⟨i,_,row,hi',hRi _ _ g1,by simpa[Ctx.pass,hi']using v,by simpa[Ctx.pass,hi']using e,λh=>by omega,λ_=>hgget i _ hi' (by omega)⟩
   ·have hx2:crows[s]?=some x:=hx1
    have hli:=(List.getElem?_eq_some_iff.1 hx2).1
    have hi':ids[s]?=some ids[s]:=cI (by omega)
    obtain⟨row,g1,g2⟩:=hcg s _ hi'
    have hsk:=(Qb6.1 hs).1
    exact .inl ⟨s,_,row,hi',hRi _ _ g1,by simpa[Ctx.pass,hi']using v,by simpa[Ctx.pass,hi']using e,λh=>by omega,λ_=>hgget s _ hi' (by omega)⟩
   ·exact .inr e
 have new:∀i row',kl<=i->c'.R i=some row'->i<rows'.length/\R2.getD (R.length+(i-kl)) none=some (row'.ren f false)/\f i=R.length+(i-kl):=by
  intro i row' hi hrow'
  have h1:rows'[i]?=some row':=by rw[<-hR'];exact hrow'
  have h2:=(List.getElem?_eq_some_iff.1 h1).1
  refine⟨h2,by rw[hhi i hi h2,h1];rfl,?_⟩
  rw[<-hf]
  simp only[bk]
  rw[aM (by omega),hkl]
 have hren:Qyt (λ_=>True) f false c' (c.behindK c' kl R.length R2):=by
  refine⟨λi row' _ hrow'=>?_,(λh=>by cases h),aO _⟩
  obtain⟨s1,s2,s3,s4⟩:=Qe4 f false row'
  by_cases hi:i<kl
  ·have hi':ids[i]?=some ids[i]:=cI (by omega)
   obtain⟨row,g1,g2,g3,g4,g5,g6,g7,g8,g9,g10,_⟩:=old i _ row' hi hi' hrow'
   rw[g10]
   exact⟨_,g9,s1,s2,s3,s4,by simp only[Ctx.behindK];rw[if_neg (by omega),g6],by simp only[Ctx.behindK];rw[if_neg (by omega)];exact g7.symm⟩
  ·obtain⟨h1,h2,h3⟩:=new i row' (by omega) hrow'
   rw[h3]
   have hc:R.length<=R.length+(i-kl)/\R.length+(i-kl)<R2.length:=by omega
   have he:kl+(R.length+(i-kl)-R.length)=i:=by omega
   exact⟨_,h2,s1,s2,s3,s4,by simp only[Ctx.behindK];rw[if_pos hc,he],by simp only[Ctx.behindK];rw[if_pos hc,he]⟩
 have hfr:Fr (λb=>∃r x,c.R r=some x/\¬c.V r/\r∈ids/\c.ρ r=b) w w':=hx.fr.mono λb _ ⟨i,x,h1,h2,h3⟩=>by
  have h1':crows[i]?=some x:=h1
  have hi:i<ids.length:=by have:=(List.getElem?_eq_some_iff.1 h1').1;omega
  have hi':ids[i]?=some ids[i]:=cI hi
  obtain⟨row,g1,g2⟩:=hcg i _ hi'
  exact⟨_,row,hRi _ row g1,by simpa[Ctx.pass,hi']using h2,fM hi',by simpa[Ctx.pass,hi']using h3⟩
 have rest:∀r,r∉ids->r<R.length->R2.getD r none=(R.getD r none).map (Row.kill (ids.drop k)):=λr h1 h2=>by
  rw[hlo r h2,k3 r (λe=>h1 (eS e)),Qjl,aX,if_neg (λe=>h1 (cS (Q2i.1 e)))]
 have gone:∀r,r∈ids.drop k->R2.getD r none=none:=λr h=>by
  rw[hlo r (hlt r (cS h)),k3 r (λe=>hdisj r e h),Qjl,aX,if_pos (Q2i.2 h)]
 have inv:∀r x,(c.behindK c' kl R.length R2).R r=some x->(∃i row',c'.R i=some row'/\x=row'.ren f false/\(c.behindK c' kl R.length R2).ρ r=c'.ρ i/\((c.behindK c' kl R.length R2).V r↔c'.V i)/\(i<kl/\ids[i]?=some r/\(c.behindK c' kl R.length R2).ρ r=c.ρ r/\((c.behindK c' kl R.length R2).V r↔c.V r)\/R.length<=r/\kl<=i/\r=R.length+(i-kl)))\/
  (∃row,c.R r=some row/\x=row.kill (ids.drop k)/\r∉ids/\(c.behindK c' kl R.length R2).ρ r=c.ρ r/\((c.behindK c' kl R.length R2).V r↔c.V r)):=by
  intro r x hx'
  have hx':R2.getD r none=some x:=hx'
  by_cases hm':r∈ids
  ·by_cases hg:r∈ids.drop k
   ·rw[gone r hg]at hx';cases hx'
   ·left
    have hp:=Qck hm'
    have hpk:pos r ids 0<kl:=by
     by_cases h:pos r ids 0<kl
     ·exact h
     ·exact(hg (hgget _ r hp (by omega))).elim
    obtain⟨row3,q1,q2⟩:=k2 _ r ((hkget _ hpk).trans hp)
    have hc':c'.R (pos r ids 0)=some row3:=by rw[hR'];exact q1
    obtain⟨row,g1,g2,g3,g4,g5,g6,g7,g8,g9,g10,_⟩:=old _ r row3 hpk hp hc'
    rw[g9]at hx'
    cases hx'
    have e1:(c.behindK c' kl R.length R2).ρ r=c.ρ r:=by simp only[Ctx.behindK];rw[if_neg (by omega)]
    have e2:(c.behindK c' kl R.length R2).V r↔c.V r:=by simp only[Ctx.behindK];rw[if_neg (by omega)]
    exact⟨_,row3,hc',rfl,by rw[e1,g6],by rw[e2,g7],.inl ⟨hpk,hp,e1,e2⟩⟩
  ·by_cases hc:R.length<=r
   ·left
    have hr2:r<R2.length:=by
     by_cases h:r<R2.length
     ·exact h
     ·rw[aK,aM (by omega)]at hx';cases hx'
    have hi:kl+(r-R.length)<rows'.length:=by omega
    have hc':c'.R (kl+(r-R.length))=some rows'[kl+(r-R.length)]:=by rw[hR'];exact cI hi
    obtain⟨h1,h2,h3⟩:=new _ _ (by omega) hc'
    rw[show R.length+(kl+(r-R.length)-kl)=r by omega]at h2
    rw[h2]at hx'
    cases hx'
    exact⟨_,_,hc',rfl,by simp only[Ctx.behindK];rw[if_pos ⟨hc,hr2⟩],by simp only[Ctx.behindK];rw[if_pos ⟨hc,hr2⟩],.inr ⟨hc,by omega,by omega⟩⟩
   ·right
    rw[rest r hm' (by omega)]at hx'
    simp only[fL]at hx'
    obtain⟨row,h1,h2⟩:=hx'
    exact⟨row,hRi r row h1,h2.symm,hm',by simp only[Ctx.behindK];rw[if_neg (by omega)],by simp only[Ctx.behindK];rw[if_neg (by omega)]⟩
 have apart:∀r row i row',c.R r=some row->r∉ids->¬c.V r->c'.R i=some row'->¬c'.V i->c'.ρ i≠c.ρ r:=λr row i row' h1 h2 h3 h4 h5 e=>by
  rcases blk i row' h4 h5 with⟨j,s,row2,q1,q2,q3,q4,_⟩|q
  ·have:=hm.inj s r row2 row q2 h1 q3 h3 (by rw[<-q4,e])
   subst this
   exact h2 (fM q1)
  ·have:=hm.lt h1 h3;omega
 have hgrow:Q2n (c.kill (ids.drop k)) w (c.behindK c' kl R.length R2) w':=by
  refine⟨rfl,hx.grows.top,λb hbI=>?_,λr x hr=>?_⟩
  ·have h1:(({c.pass w ids crows false with base:=0}:Ctx).kill (bL k (crows.length-k))).I b:=.inl hbI
   exact⟨(hx.grows.I b h1).1,(hx.grows.I b h1).2⟩
  ·obtain⟨hng,row,hrow,rfl⟩:=Q2b hr
   have hng:r∉ids.drop k:=λe=>by rw[Q2i.2 e]at hng;cases hng
   obtain⟨u1,u2,u3,u4⟩:=Q3f (ids.drop k) row
   by_cases hm':r∈ids
   ·have hp:=Qck hm'
    have hpk:pos r ids 0<kl:=by
     by_cases h:pos r ids 0<kl
     ·exact h
     ·exact(hng (hgget _ r hp (by omega))).elim
    obtain⟨row3,q1,q2⟩:=k2 _ r ((hkget _ hpk).trans hp)
    have hc':c'.R (pos r ids 0)=some row3:=by rw[hR'];exact q1
    obtain⟨row0,g1,g2,g3,g4,g5,g6,g7,g8,g9,g10,g11⟩:=old _ r row3 hpk hp hc'
    rw[hrow]at g1;cases g1
    obtain⟨s1,s2,s3,s4⟩:=Qe4 f false row3
    refine⟨_,g9,s1.trans (g2.trans u1.symm),s2.trans (g3.trans u2.symm),s3.trans (g4.trans u3.symm),s4.trans (g5.trans u4.symm),by simp only[Ctx.behindK];rw[if_neg (by omega)];rfl,by simp only[Ctx.behindK];rw[if_neg (by omega)];rfl,λnv arr ha=>?_⟩
    rw[u2]at ha⊢
    exact g11 nv arr ha
   ·have hrl:r<R.length:=by
     by_cases h:r<R.length
     ·exact h
     ·rw[hR,aK,aM (by omega)]at hrow;cases hrow
    refine⟨row.kill (ids.drop k),?_,rfl,rfl,rfl,rfl,by simp only[Ctx.behindK];rw[if_neg (by omega)];rfl,by simp only[Ctx.behindK];rw[if_neg (by omega)];rfl,λnv arr ha=>⟨arr,?_,rfl⟩⟩
    ·show R2.getD r none=_
     rw[rest r hm' hrl,<-hR,hrow];rfl
    ·have nv:¬c.V r:=nv
     show w'.heap[c.ρ r]?=_
     rw[hfr.heap _ (hm.lt hrow nv) fun⟨s,x,h1,h2,h3,h4⟩=>hm' (by rw[<-hm.inj s r x row h1 hrow h2 nv h4];exact h3)]
     exact ha
 refine⟨hren,⟨λr x hx'=>?_,λr s x y hr hs v1 v2 he=>?_,λb hbI=>⟨(hx.mem.imm b hbI).1,λr x hr v=>?_⟩,hx.mem.top,hx.mem.tab⟩,hgrow,hfr.mono λb _ ⟨r,x,h1,h2,_,h4⟩=>⟨r,x,h1,h2,h4⟩,λb hbI=>?_,λr x hr v=>?_⟩
 ·rcases inv r x hx' with⟨i,row',h1,rfl,h3,h4,_⟩|⟨row,h1,rfl,h2,h3,h4⟩
  ·exact Z7o hren (flat:=False) (.inl λb hb=>hb) h3 h4 (λ_ _ _ _ _=>trivial) (λe=>e.elim) (hx.mem.row i row' h1)
  ·have hk:=Z96 (ks:=ids.drop k) (hm.row r row h1)
   exact Q2a hgrow h3 h4 (λnv=>hfr.heap _ (hm.lt h1 nv) fun⟨s,x',g1,g2,g3,g4⟩=>h2 (by rw[<-hm.inj s r x' row g1 h1 g2 nv g4];exact g3)) hk
 ·rcases inv r x hr with⟨i,x',h1,_,h3,h4,h5⟩|⟨row,h1,_,h2,h3,h4⟩<;>rcases inv s y hs with⟨j,y',g1,_,g3,g4,g5⟩|⟨row2,g1,_,g2,g3,g4⟩
  ·have:i=j:=hx.mem.inj i j x' y' h1 g1 (λe=>v1 (h4.2 e)) (λe=>v2 (g4.2 e)) (by rw[<-h3,<-g3];exact he)
   subst this
   rcases h5 with⟨q0,q1,_⟩|⟨_,q1,q2⟩<;>rcases g5 with⟨p0,p1,_⟩|⟨_,p1,p2⟩
   ·rw[q1]at p1;exact Option.some.inj p1
   ·omega
   ·omega
   ·omega
  ·exact(apart s row2 i x' g1 g2 (λe=>v2 (g4.2 e)) h1 (λe=>v1 (h4.2 e)) (by rw[<-h3,<-g3];exact he)).elim
  ·exact(apart r row j y' h1 h2 (λe=>v1 (h4.2 e)) g1 (λe=>v2 (g4.2 e)) (by rw[<-h3,<-g3];exact he.symm)).elim
  ·exact hm.inj r s row row2 h1 g1 (λe=>v1 (h4.2 e)) (λe=>v2 (g4.2 e)) (by rw[<-h3,<-g3];exact he)
 ·rcases inv r x hr with⟨i,x',h1,_,h3,h4,h5⟩|⟨row,h1,_,h2,h3,h4⟩
  ·rw[h3];exact(hx.mem.imm b hbI).2 i x' h1 (λe=>v (h4.2 e))
  ·have nv:¬c.V r:=λe=>v (h4.2 e)
   rw[h3]
   rcases hx.imm b hbI with q|⟨s,z,q1,q2,q3,q4⟩|q
   ·rcases q with q|⟨q,_⟩
    ·exact(hm.imm b q).2 r row h1 nv
    ·cases q
   ·intro e
    have hz:crows[s]?=some z:=q2
    have hli:=(List.getElem?_eq_some_iff.1 hz).1
    have hi':ids[s]?=some ids[s]:=cI (by omega)
    obtain⟨row2,g1,g2⟩:=hcg s _ hi'
    have:=hm.inj _ r row2 row (hRi _ _ g1) h1 (by simpa[Ctx.pass,hi']using q3) nv (by rw[e];simpa[Ctx.pass,hi']using q4)
    exact h2 (by rw[<-this];exact fM hi')
   ·have:=hm.lt h1 nv;omega
 ·rcases hx.imm b hbI with q|⟨s,z,q1,q2,q3,q4⟩|q
  ·rcases q with q|⟨q,_⟩
   ·exact .inl q
   ·cases q
  ·have hz:crows[s]?=some z:=q2
   have hli:=(List.getElem?_eq_some_iff.1 hz).1
   have hi':ids[s]?=some ids[s]:=cI (by omega)
   obtain⟨row2,g1,g2⟩:=hcg s _ hi'
   have hsk:=(Qb6.1 q1).1
   exact .inr (.inl ⟨_,row2,Q2i.2 (hgget s _ hi' (by omega)),hRi _ _ g1,by simpa[Ctx.pass,hi']using q3,by simpa[Ctx.pass,hi']using q4⟩)
  ·exact .inr (.inr q)
 ·rcases inv r x hr with⟨i,x',h1,_,h3,h4,h5⟩|⟨row,h1,_,h2,h3,h4⟩
  ·rcases h5 with⟨q0,q1,q2,q3⟩|⟨q0,q1,q2⟩
   ·obtain⟨row,g1,_⟩:=old i r x' q0 q1 h1
    exact .inl ⟨⟨row,g1⟩,λe=>v (q3.2 e),q2⟩
   ·rcases blk i x' h1 (λe=>v (h4.2 e))with⟨j,s,row2,p1,p2,p3,p4,_,p5⟩|p
    ·exact .inr (.inl ⟨s,row2,Q2i.2 (p5 q1),p2,p3,by rw[h3];exact p4⟩)
    ·exact .inr (.inr (by rw[h3];exact p))
  ·exact .inl ⟨⟨row,h1⟩,λe=>v (h4.2 e),h3⟩
def CallC(P:Program)(f:FuncId)(args:List Operand)(ev:Operand->D)(R:Rows)(ks:List Nat)(val:D)(R':Rows):Prop:=
 ∀ (c:Ctx) (w:World) (ρ:Operand->Value),Mem c w->c.base<=w.heap.size->(∀r,c.R r=R.getD r none)->(∀y∈args,Rep c w (ev y) (ρ y))->
  ∀K':Value->World->Prop,(∀v w' c',NxtK ks c w c' w'->(∀r,c'.R r=R'.getD r none)->Rep c' w' val v->K' v w')->Qgy P c.I f (args.map ρ) w λe w'=>∃v,e=.returned v/\K' v w'
theorem Qux{P:Program}{G:List Q09}{M:Nat}(hG:Q57 P G){f:FuncId}{k:Nat}{args:List Operand}{ev:Operand->D}{R:Rows}{K:List Nat->D->Rows->Prop}
 (hgo:Q8t G f=some k) (h:Z7x G M f k (args.map ev) R K):∃ks val R' x,K ks val R'/\Qf0 G f=some x/\(x.refs≠[])/\(∀j,memB j ks=true->M<=j)/\CallC P f args ev R ks val R':=by
 unfold Z7x at h
 split at h
 ·rename_i x hx
  have hgn:x.gone=some k:=by simpa[Q8t,hx]using hgo
  obtain⟨hok,hf⟩:=Qf1 hG hx
  split at h
  ·rename_i az crows has hcrows
   simp only[Q02,aE]at h
   obtain⟨⟨⟨⟨hv,hrf⟩,h1,h2⟩,h3,h4⟩,h⟩:=h
   generalize hids:Qas R x.refs (args.map ev)=ids at*
   have hsub:=Qki.1 h1
   have hcl:=Qki.1 h2
   have hnd:=Qdj.1 h3
   have hvals:Q3x x.refs (args.map ev)=[]:=by
    revert hv
    cases Q3x x.refs (args.map ev)<;>simp
   have hrefs:x.refs≠[]:=λe=>by rw[e]at hrf;simp at hrf
   have main:∀res rows',Z6h R (ids.take k) (ids.drop k) res rows' K->Q9l P x.f k az crows res rows'->
    ∃ks val R' y,K ks val R'/\Qf0 G f=some y/\(y.refs≠[])/\(∀j,memB j ks=true->M<=j)/\CallC P f args ev R ks val R':=by
    intro res rows' hK hA
    simp only[Z6h,Q02,D.force_iff,Q1h]at hK
    obtain⟨hle,hK⟩:=hK
    have hle:=lE hle
    refine⟨_,_,_,x,hK,hx,hrefs,λj hj=>lE (List.all_eq_true.1 h4 j (Q2i.1 hj)),λc w ρ hm hb hR hev K' hK'=>?_⟩
    have hRi:∀r row,r∈ids->R.getD r none=some row->c.R r=some row:=λr row _ e=>by rw[hR];exact e
    have hAg:Q4w c R:=λr row row' g1 g2=>by rw[hR,g2]at g1;exact(Option.some.inj g1).symm
    have hn:=Qkt (len:=false) (w:=w) hRi hcrows
    have hargs:=Qkq (len:=false) (ρ:=ρ) hm hAg hn has (λe=>(e hvals).elim) (λr hr=>by rw[hvals]at hr;cases hr) hsub hev
    have hcall:=hA _ w _ (Z3x (Z15 (len:=false) hm hRi hnd hcl hcrows)) rfl (λr=>rfl) (Qmc hargs)
    rw[hf]at hcall
    refine hcall.mono (λb hb=>.inl hb) (λe w' hpost=>?_)
    obtain⟨v,c',he,hnx,hR',hres⟩:=hpost
    have:=Z0p (k:=k) hm hR hnd hcrows hle hnx hR' rfl
    exact⟨v,he,hK' v w' _ this.2 (λr=>rfl) (Z1b this.1 (flat:=False) (.inl λb hb=>hb) (λ_=>trivial) (λe=>e.elim) hres)⟩
   split at h
   ·rename_i α v res rows' hm
    exact main _ _ (h v rfl) (hok.kabs k hgn _ _ _ _ _ _ hm)
   ·rename_i p α v res rows' hm
    exact main _ _ (h.2 v rfl) (hok.kabsW k hgn _ _ _ _ _ _ _ hm h.1)
   ·exact h.elim
  ·exact h.elim
 ·exact h.elim
theorem Za3{P:Program}{G:List Q09}{M:Nat}(hG:Q57 P G){f:FuncId}(hy:f<YB){dst:Option Tmp}{k:Nat}{args:Array Operand}{tys:Array TypeId}{type:TypeId}{pos':String}{after:Array Edge}{guard:Option (Nat×Bool)}{ev:Operand->D}{R:Rows}{K:List Nat->D->Rows->Prop}
 (hgo:Q8t G f=some k) (h:Z7x G M f k (args.toList.map ev) R K):∃ks val R' x,K ks val R'/\Qf0 G f=some x/\(x.refs≠[])/\(∀j,memB j ks=true->M<=j)/\OpK P ⟨dst,.call ⟨.value (.func f),args,tys⟩,type,pos',after,guard⟩ ev R ks val R':=by
 obtain⟨ks,val,R',x,h1,h2,h3,h4,h5⟩:=Qux hG hgo h
 obtain⟨hok,hf⟩:=Qf1 hG h2
 refine⟨ks,val,R',x,h1,h2,h3,h4,λc w a hm hb hR hev K' Q hK'=>?_⟩
 subst hf
 exact Z1h hok rfl hy ((h5 c w a.eval hm hb hR (λy hy=>hev y (by simp[Op.operands,Call.operands];exact .inr (by simpa using hy))) (λv w'=>K' (a.put dst v) w') λv w' c'=>hK' v w' c').1 hy)
def Ctx.only(c:Ctx)(ks:List Nat):Ctx:={c with R:=λr=>if memB r ks=true then(match c.R r with|some row=>if row.box=true then none else some row|none=>none)else none}
theorem Qkd{c:Ctx}{ks:List Nat}{r:Nat}{x:Row}(h:(c.only ks).R r=some x):r∈ks/\c.R r=some x/\x.box=false:=by
 simp only[Ctx.only]at h
 split at h
 ·rename_i hm
  split at h
  ·rename_i row hr
   split at h
   ·cases h
   ·rename_i hb
    cases h
    exact⟨Q2i.1 hm,hr,by simpa using hb⟩
  ·cases h
 ·cases h
theorem xm{c:Ctx}{ks:List Nat}{r:Nat}{x:Row}(hm:r∈ks)(hr:c.R r=some x)(hb:x.box=false):(c.only ks).R r=some x:=by
 simp[Ctx.only,Q2i.2 hm,hr,hb]
theorem yE{c:Ctx}{w:World}(hm:Mem c w)(ks:List Nat):Mem (c.only ks) w:=by
 refine⟨λr x hr=>?_,λr s x y hr hs=>?_,λb hb=>⟨(hm.imm b hb).1,λr x hr v=>?_⟩,hm.top,hm.tab⟩
 ·obtain⟨_,h1,h2⟩:=Qkd hr
  rcases hm.row r x h1 with h|⟨h0,arr,ha,hs,hx⟩
  ·exact .inl h
  ·refine .inr ⟨h0,arr,ha,hs,?_⟩
   rw[if_neg (by rw[h2];simp)]at hx⊢
   exact hx
 ·exact hm.inj r s x y (Qkd hr).2.1 (Qkd hs).2.1
 ·exact(hm.imm b hb).2 r x (Qkd hr).2.1 v
theorem Z4t{c:Ctx}{w:World}{R:Rows}{ks:List Nat}{d d':D}{v:Value}(h:Z2j R d=some d')(hl:∀r∈Q6i d,r∈ks)(hr:CRep c w d v):CRep (c.only ks) w d v:=by
 cases d<;>simp only[Z2j]at h<;>try(cases h;done)
 case all r=>
  obtain⟨row,g1,g2,g3⟩:=hr
  exact⟨row,xm (hl r (by simp[Q6i])) g1 g2,g2,g3⟩
 case own r o n=>
  obtain⟨row,g1,g2,g3,g4⟩:=hr
  exact⟨row,xm (hl r (by simp[Q6i])) g1 g2,g2,g3,g4⟩
 all_goals exact hr
theorem Z5h{c:Ctx}{w:World}{R:Rows}{ks:List Nat}:∀{ds ds':List D} {vs:List Value},Z7w R ds=some ds'->(∀r∈Q9y ds,r∈ks)->Q2y c w ds vs->Q2y (c.only ks) w ds vs
 |[],_,[],_,_,_=>trivial
 |d ::ds,ds',v::vs,h,hl,hr=>by
  simp only[Z7w]at h
  split at h
  ·rename_i x xs h1 h2
   exact⟨Z4t h1 (λr e=>hl r (by simp[Q9y,e])) hr.1,Z5h h2 (λr e=>hl r (by simp[Q9y,e])) hr.2⟩
  ·cases h
 |[],_,_::_,_,_,h=>h.elim
 |_::_,_,[],_,_,h=>h.elim
theorem vE{c:Ctx}{w:World}{R:Rows}{ks:List Nat}{d d':D}{v:Value}(h:conv R d=some d')(hl:∀r∈Z1q d,r∈ks)(hr:Rep c w d v):Rep (c.only ks) w d v:=by
 cases d with
 |agg cs=>
  simp only[conv,fL]at h
  obtain⟨xs,h1,_⟩:=h
  obtain⟨vs,hv,hx⟩:=hr
  exact⟨vs,hv,Z5h h1 hl hx⟩
 |tup ds=>simp[conv,Z2j]at h
 |dead=>trivial
 |_=>
  simp only[conv]at h
  simp only[Rep,VRep]at hr⊢
  exact Z4t h hl hr
theorem Qze{R:Rows}{f:Nat->Nat}{ev:Operand->D}:∀{xs:List Operand} {az:List D},Qj9 R f [] (xs.map ev)=some az->∀x∈xs,∃y,conv R (ev x)=some y
 |[],_,_,x,hx=>by simp at hx
 |y ::xs,az,h,x,hx=>by
  simp only[eJ,Qj9]at h
  split at h
  ·rename_i z zs h1 h2
   simp only[fG]at hx
   rcases hx with rfl|hx
   ·exact⟨_,h1⟩
   ·exact Qze h2 x hx
  ·cases h
theorem Qz4{ev:Operand->D}{r:Nat}:∀{xs:List Operand} {x:Operand},x∈xs->r∈Z1q (ev x)->r∈Q3x [] (xs.map ev)
 |y::xs,x,hx,hr=>by
  simp only[eJ,Q3x,bZ]
  simp only[fG]at hx
  rcases hx with rfl|hx
  ·exact .inl hr
  ·exact .inr (Qz4 hx hr)
theorem Qjc{r:Nat}:∀{l ids:List Nat},r∈addB ids l->r∈ids\/r∈l
 |[],ids,h=>.inl h
 |x ::l,ids,h=>by
  simp only[addB]at h
  split at h
  ·rcases Qjc h with h|h
   ·exact .inl h
   ·exact .inr (by simp[h])
  ·rcases Qjc h with h|h
   ·simp only[bZ,List.mem_singleton]at h
    rcases h with h|h
    ·exact .inl h
    ·exact .inr (by simp[h])
   ·exact .inr (by simp[h])
theorem zm{c:Ctx}{w:World}{d:D}{v:Value}(h:Rep c w d v):Rep {c with base:=0} w d v:=by
 cases d with
 |tup ds=>obtain⟨vs,hv,hx⟩:=h;exact⟨vs,hv,Qmc hx⟩
 |dead=>trivial
 |_=>exact Rep.ofV (Z0t (Rep.toV (λds e=>by cases e) (λe=>by cases e) h))
theorem qF{P:Program}{G:List Q09}{M:Nat}(hG:Q57 P G){dst:Option Tmp}{f:FuncId}{args:Array Operand}{tys:Array TypeId}{type:TypeId}{pos':String}{after:Array Edge}{guard:Option (Nat×Bool)}{ev:Operand->D}{R:Rows}{K:List Nat->D->Rows->Prop}
 (hgo:Q8t G f=none) (h:callF G M f (args.toList.map ev) R K):∃ks val R' x,K ks val R'/\Qf0 G f=some x/\(∀j,memB j ks=true->M<=j)/\OpK P ⟨dst,.call ⟨.value (.func f),args,tys⟩,type,pos',after,guard⟩ ev R ks val R':=by
 unfold callF at h
 split at h
 ·rename_i x hx
  have hgn:x.gone=none:=by simpa[Q8t,hx]using hgo
  obtain⟨hok,hf⟩:=Qf1 hG hx
  split at h
  ·rename_i az crows has hcrows
   simp only[Q02,aE]at h
   obtain⟨⟨⟨hrf,hbx⟩,h3,hsub,h4⟩,h⟩:=h
   have hks0:∀r,r∈addB [] (Q3x [] (args.toList.map ev))->r∈Q3x [] (args.toList.map ev):=λr hr=>by
    rcases Qjc hr with h|h
    ·cases h
    ·exact h
   generalize hids:addB [] (Q3x [] (args.toList.map ev))=ids at*
   have hnd:=Qdj.1 h3
   have hsub:=Qki.1 hsub
   have main :∀res rows',Z6h R [] ids res rows' K->Q2f P x.f az [] res rows'->
    ∃ks val R' y,K ks val R'/\Qf0 G f=some y/\(∀j,memB j ks=true->M<=j)/\OpK P ⟨dst,.call ⟨.value (.func f),args,tys⟩,type,pos',after,guard⟩ ev R ks val R':=by
    intro res rows' hK hA
    simp only[Z6h,Q02,D.force_iff,Q1h]at hK
    obtain⟨_,hK⟩:=hK
    refine⟨_,_,_,x,hK,hx,λj hj=>lE (List.all_eq_true.1 h4 j (Q2i.1 hj)),λc w a hm hb hR hev K' Q hK'=>?_⟩
    have hAg:Q4w (c.only ids) R:=λr row row' g1 g2=>by
     have:=(Qkd g1).2.1
     rw[hR,g2]at this;exact(Option.some.inj this).symm
    have hmo:=yE hm ids
    have hn:=Qkt (c:=c.only ids) (R:=R) (ids:=[]) (crows:=[]) (len:=true) (w:=w) (λr row e=>by cases e) rfl
    have hev':∀y∈args.toList,Rep (c.only ids) w (ev y) (a.eval y):=λy hy=>by
     obtain⟨z,hz⟩:=Qze has y hy
     exact vE hz (λr hr=>hsub r (Qz4 hy hr)) (hev y (by simp[Op.operands,Call.operands];exact .inr (by simpa using hy)))
    rw[Qwo (λr=>r) (λr=>pos r [] 0)]at has
    have hargs:=Qkq (len:=true) (ρ:=a.eval) hmo hAg hn has (λ_=>rfl) (λr _ e=>by cases e) (λr e=>by rw[Qqf]at e;cases e) hev'
    have hcall:=hA _ w _ (Z15 (R:=R) (len:=true) hmo (λr row e=>by cases e) (by simp) (λr e=>by simp[Qe]at e) rfl) rfl (λr=>rfl) hargs
    refine Z1h hok hf (hok.real hgn) (hcall.mono λe w' hpost=>?_)
    obtain⟨v,c',he,hnx,hR',hres⟩:=hpost
    have nor:∀r x,((c.only ids).pass w [] [] true).R r=some x->False:=λr x h=>by simp[Ctx.pass]at h
    obtain⟨hcl,hcg⟩:=Q8g hcrows
    have hxK:NxtK (bL 0 (crows.length-0)) {c.pass w ids crows false with base:=0} w {c' with base:=0} w':=by
     refine⟨Z3x hnx.mem,⟨rfl,hnx.grows.top,λb hbI=>?_,λr x hr=>?_⟩,hnx.fr.mono λb _ ⟨r,x,h1,_⟩=>(nor r x h1).elim,λb hbI=>?_,λr x hr hv=>?_⟩
     ·have:c.I b:=by
       rcases hbI with h|⟨h,_⟩
       ·exact h
       ·cases h
      exact⟨(hnx.grows.I b (.inl this)).1,(hnx.grows.I b (.inl this)).2⟩
     ·obtain⟨h1,row,h2,_⟩:=Q2b hr
      have h2':crows[r]?=some row:=h2
      have:=(List.getElem?_eq_some_iff.1 h2').1
      rw[Qb6.2 (by omega)]at h1;cases h1
     ·rcases hnx.imm b hbI with h|h
      ·rcases h with h|⟨_,r,row,g1,g2,g3,_,g5⟩
       ·exact .inl (.inl h)
       ·obtain⟨k1,k2,k3⟩:=Qkd g1
        have hp:=Qck k1
        obtain⟨row2,q1,q2⟩:=hcg _ r hp
        have hl:=(List.getElem?_eq_some_iff.1 q2).1
        exact .inr (.inl ⟨_,_,Qb6.2 (by omega),q2,by simpa[Ctx.pass,Ctx.only,hp]using g2,by simpa[Ctx.pass,Ctx.only,hp]using g5⟩)
      ·exact .inr (.inr h)
     ·rcases hnx.rho r x hr hv with⟨⟨y,h1⟩,_⟩|h
      ·exact(nor r y h1).elim
      ·exact .inr (.inr h)
    have:=Z0p (k:=0) (c':={c' with base:=0}) hm hR hnd hcrows (by simp) hxK hR' rfl
    simp only[List.take_zero,List.drop_zero]at this
    exact⟨v,he,hK' v w' _ this.2 (λr=>rfl) (Z1b this.1 (flat:=False) (.inl λb hb=>hb) (λ_=>trivial) (λe=>e.elim) (zm hres))⟩
   split at h
   ·rename_i α v res rows' hm
    exact main _ _ (h v rfl) (hok.abs hgn _ _ _ _ _ _ hm).1
   ·rename_i p α v res rows' hm
    exact main _ _ (h.2 v rfl) (hok.absW hgn _ _ _ _ _ _ _ hm h.1).1
   ·exact h.elim
  ·exact h.elim
 ·exact h.elim
