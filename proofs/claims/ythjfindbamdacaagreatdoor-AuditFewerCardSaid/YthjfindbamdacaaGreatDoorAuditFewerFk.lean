import Derived.Test.YthjfindbamdacaaGreatDoorAuditFewerFo
import Derived.Laws.Append
import Derived.Laws.CopyRow
import Derived.Laws.AppendOwn
open List renaming eq_nil_of_length_eq_zero->fR,map_cons->fT,append_assoc->fF,getElem?_take->aU,getElem?_drop->fK,getElem?_toArray->aY,getD->aK,length_take->bD,length_drop->bF,getElem?_append_left->aZ,size_toArray->bA,getElem?_append_right->bB,getElem?_eq_none->aM,take_of_length_le->fO,getElem?_eq_getElem->cG,range'->bK,mem_of_getElem?->fX,mem_of_mem_take->cX,mem_of_mem_drop->cY,mem_cons->cS,mem_append->bX
open Bool renaming false_eq_true->aN
open Option renaming map_eq_some_iff->fS
open Nat renaming add_zero->bG,succ_mul->aW,mul_le_mul_right->aV,zero_add->aX,mul_comm->fV,le_refl->aO,add_mul->bC,le_trans->bH,le_mul_of_pos_right->fW
open Array renaming ext'->fU
set_option linter.all false
namespace Go.GD
open Go
section
variable {c:Ctx} {w:World} {ks:List Nat}
theorem wC(ks:List Nat)(row:Row):(row.kill ks).box=row.box/\(row.kill ks).ty=row.ty/\(row.kill ks).sz=row.sz/\(row.kill ks).es.l.length=row.es.l.length:=by
 unfold Row.kill;split<;>exact⟨rfl,rfl,rfl,rfl⟩
theorem Qys:∀{e:List D},(D.kF ks e).length=e.length
 |[]=>rfl
 |d::l=>by simp[D.kF,Qys (e:=l)]
theorem Z91{d:D}{v:Value}(gr:∀f cs,d≠.gn f cs)(h:cv c w d v):cv (c.kill ks) w (d.ek ks) v:=by
 have key:∀r row,cb r ks=false->c.R r=some row->(c.kill ks).R r=some (row.kill ks):=λr row hr cg=>by simp[Ctx.kill,hr,cg]
 have h1:=cv.one h
 cases d with
 |all r=>
  simp only[D.ek]
  cases hr:cb r ks with
  |true=>exact h1
  |false=>
   obtain⟨row,g1,g2,g3⟩:=h
   obtain⟨s1,s2,s3,s4⟩:=wC ks row
   exact⟨_,key r row hr g1,s1.trans g2,by rw[s2,s3,s4];exact g3⟩
 |own r o n=>
  simp only[D.ek]
  cases hr:cb r ks with
  |true=>exact h1
  |false=>
   obtain⟨row,g1,g2,g3,g4⟩:=h
   obtain⟨s1,s2,s3,s4⟩:=wC ks row
   exact⟨_,key r row hr g1,s1.trans g2,by rw[s4];exact g3,by rw[s2,s3];exact g4⟩
 |ptr r i off=>
  simp only[D.ek]
  cases hr:cb r ks with
  |true=>exact h1
  |false=>
   obtain⟨row,g1,g2,g3,g4⟩:=h
   obtain⟨s1,s2,s3,s4⟩:=wC ks row
   exact⟨_,key r row hr g1,g2,by rw[s4];exact g3,by rw[s3];exact g4⟩
 |pa r i off len k n=>
  simp only[D.ek]
  cases hr:cb r ks with
  |true=>exact h1
  |false=>
   obtain⟨g0,row,g1,g2,g3,g4⟩:=h
   obtain⟨s1,s2,s3,s4⟩:=wC ks row
   exact⟨g0,_,key r row hr g1,g2,by rw[s4];exact g3,by rw[s3];exact g4⟩
 |c9 r=>
  simp only[D.ek]
  cases hr:cb r ks with
  |true=>exact h1
  |false=>
   rcases h with h|⟨row,g1,g2,g3,g4⟩
   ·exact .inl h
   ·obtain⟨s1,s2,s3,s4⟩:=wC ks row
    exact .inr ⟨_,key r row hr g1,g2,by rw[s4];exact g3,by rw[s3];exact g4⟩
 |gn f cs=>exact absurd rfl (gr f cs)
 |_=>exact h
theorem yu{d:D}(gr:∀f cs,d≠.gn f cs)(h:∀r∈nU d,cb r ks=false):d.ek ks=d:=by
 cases d<;>first|rfl|(simp only[D.ek];rw[h _ (by simp[nU])])|exact absurd rfl (gr _ _)
theorem SY{d:D}{v:Value}(h:cv c w d v):cv (c.kill ks) w (d.ek ks) v:=by
 by_cases e:∃g cs,d=.gn g cs
 ·obtain⟨g,cs,rfl⟩:=e
  have h1:=cv.one h
  simp only[D.ek]
  cases hd:nV (oH cs) ks with
  |false=>exact h1
  |true=>
   obtain⟨us,hv,hu⟩:=h
   exact⟨us,hv,Y9 (c:=c) (w:=w) (c':=c.kill ks) (w':=w) (S:=λr=>cb r ks=false) (λd v q1 q2 q3=>by have:=Z91 (ks:=ks) q1 q3;rwa [yu q1 q2]at this) (λ_ hb=>⟨hb,rfl⟩) (λr hr=>by
    have:=UM.1 hd r hr
    cases hm:cb r ks with
    |false=>rfl
    |true=>exact(this (oz.1 hm)).elim) hu⟩
 ·exact Z91 (λf cs e'=>e ⟨f,cs,e'⟩) h
theorem Zey:∀{ds:List D} {vs:List Value},jr c w ds vs->jr (c.kill ks) w (D.kF ks ds) vs
 |[],[],_=>trivial
 |_::_,_::_,h=>⟨SY h.1,Zey h.2⟩
 |[],_::_,h=>h.elim
 |_::_,[],h=>h.elim
theorem Znx{d:D}{v:Value}(h:VRep c w d v):VRep (c.kill ks) w (d.kill ks) v:=by
 cases d with
 |agg cs=>obtain⟨vs,hv,hr⟩:=h;exact⟨vs,hv,Zey hr⟩
 |_=>
  have:=SY (ks:=ks) (VRep.toC (λcs e=>by cases e) h)
  exact VRep.EW this
theorem Zf4:∀{ds:List D} {vs:List Value},kh c w ds vs->kh (c.kill ks) w (D.pU ks ds) vs
 |[],[],_=>trivial
 |_::_,_::_,h=>⟨Znx h.1,Zf4 h.2⟩
 |[],_::_,h=>h.elim
 |_::_,[],h=>h.elim
theorem WS{d:D}{v:Value}(h:Rep c w d v):Rep (c.kill ks) w (d.gq ks) v:=by
 cases d with
 |du ds=>obtain⟨vs,hv,hr⟩:=h;exact⟨vs,hv,Zf4 hr⟩
 |dead=>trivial
 |_=>
  have:=Znx (ks:=ks) (Rep.toV (λds e=>by cases e) (λe=>by cases e) h)
  exact Rep.KQ this
theorem Z93:∀{ds:List D} {arr:Array Value} {off:Nat},kO c w ds arr off->kO (c.kill ks) w (D.kF ks ds) arr off
 |[],_,_,_=>trivial
 |_::_,_,_,⟨⟨v,hv,h1⟩,h2⟩=>⟨⟨v,hv,SY h1⟩,Z93 h2⟩
theorem Zma{r:Nat}{row:Row}(h:EZ c w r row):EZ (c.kill ks) w r (row.kill ks):=by
 obtain⟨s1,s2,s3,s4⟩:=wC ks row
 rcases h with⟨h0,h1,h2,h3⟩|⟨h0,arr,ha,hs,hx⟩
 ·refine .inl ⟨h0,s1.trans h1,?_,by rw[s3];exact h3⟩
  rw[h2]at s4;exact fR s4
 ·refine .inr ⟨h0,arr,by rw[s2];exact ha,by rw[s3];exact hs,?_⟩
  rw[s1,s3]
  split
  ·rename_i hb
   simp only[hb,if_true]at hx
   obtain⟨e,k1,k2,k3,k4⟩:=hx
   obtain⟨box,ty,sz,es⟩:=row
   simp only at hb k1 k2 k3 k4
   subst hb;subst k1
   exact⟨D.kF ks e,rfl,by rw[Qys];exact k2,k3,Z93 k4⟩
  ·rename_i hb
   simp only[hb,aN,if_false]at hx
   have he:(row.kill ks).es=row.es:=by
    unfold Row.kill
    split
    ·simp at hb
    ·rfl
   rw[he];exact hx
theorem ox{r:Nat}{x:Row}(h:(c.kill ks).R r=some x):cb r ks=false/\∃row,c.R r=some row/\x=row.kill ks:=by
 simp only[Ctx.kill]at h
 cases hb:cb r ks with
 |true=>rw[hb]at h;simp at h
 |false=>
  rw[hb]at h
  simp only[aN,if_false,fS]at h
  obtain⟨row,h1,h2⟩:=h
  exact⟨rfl,row,h1,h2.symm⟩
theorem Zs(hm:Mem c w):Mem (c.kill ks) w:=by
 refine⟨λr x hx=>?_,λr s x y hx hy v1 v2 he=>?_,λb hb=>⟨(hm.fu b hb).1,λr x hx v=>?_⟩,hm.top,hm.kR⟩
 ·obtain⟨_,row,h1,rfl⟩:=ox hx
  exact Zma (hm.row r row h1)
 ·obtain⟨_,row,h1,_⟩:=ox hx
  obtain⟨_,ak,h2,_⟩:=ox hy
  exact hm.inj r s row ak h1 h2 v1 v2 he
 ·obtain⟨_,row,h1,_⟩:=ox hx
  exact(hm.fu b hb).2 r row h1 v
end
theorem Zm9:∀{l:List Nat},nV l []=true
 |[]=>rfl
 |x::l=>by simp only[nV,cb];exact Zm9
theorem WR(d:D):d.ek []=d:=by
 cases d with
 |gn f cs=>simp only[D.ek,Zm9]
 |_=>rfl
theorem WQ:∀{ds:List D},D.kF [] ds=ds
 |[]=>rfl
 |d::l=>by simp only[D.kF,WR,WQ (ds:=l)]
theorem Z38(row:Row):row.kill []=row:=by
 unfold Row.kill;split
 ·simp[WQ]
 ·rfl
theorem zQ(c:Ctx):c.kill []=c:=by
 obtain⟨ρ,R,V,I,base,top,X⟩:=c
 simp only[Ctx.kill,cb,aN,if_false]
 congr 1
 funext r
 cases R r<;>simp[Z38]
theorem lW.toK{c c':Ctx}{w w':World}(h:lW c w c' w'):jH [] c w c' w':=
 ⟨h.mem,by rw[zQ];exact h.cf,h.fr,λb hb=>(h.fu b hb).imp id .inr,λr ak h1 h2=>(h.ov r ak h1 h2).imp id .inr⟩
theorem P7{ks:List Nat}:∀{R:Rows} {i r:Nat},(se ks R i).getD r none=if cb (i+r) ks=true then none else(R.getD r none).map (Row.kill ks)
 |[],i,r=>by simp[se]
 |x::l,i,0=>by
  simp only[se,bG]
  cases cb i ks<;>cases x<;>simp
 |x::l,i,r+1=>by
  have:=P7 (ks:=ks) (R:=l) (i:=i+1) (r:=r)
  rw[show i+1+r=i+(r+1) by omega]at this
  simpa[se]using this
theorem JN{ks:List Nat}:∀{R:Rows} {i:Nat},(se ks R i).length=R.length
 |[],_=>rfl
 |x::l,i=>by simp[se,JN (R:=l)]
def sr(ks:List Nat)(env:List (Nat×D)):List (Nat×D):=env.map λx=>(x.1,x.2.gq ks)
theorem IE{ks:List Nat}:∀{env:List (Nat×D)} {K:List (Nat×D)->Prop},GC ks env K↔K (sr ks env)
 |[],_=>Iff.rfl
 |(t,d)::l,K=>by
  simp only[GC,D.cq]
  rw[IE (env:=l) (K:=λl=>K ((t,d.gq ks)::l))]
  rfl
theorem Ca{ks:List Nat}:∀{env:List (Nat×D)} {t:Nat},look (sr ks env) t=(look env t).gq ks
 |[],_=>rfl
 |(u,d)::l,t=>by
  simp only[sr,fT,look]
  cases Nat.beq u t with
  |true=>rfl
  |false=>exact Ca (env:=l)
theorem Qn7{P:Program}(w:World){t tx ty e:TypeId}{i:TypeInfo}{ux:TypeDesc}(ht:P.underlying t=some (.slice e))(pK:P.underlying tx=some ux)(hx:∀k,ux≠.int k)(hi:P.info? e=some i)
 {a:Option Addr} {n cap m:Nat} {x:Value} {news:List Value} (hl:(Builtin.lenOf x).run P w=.ok m w) (hf:(Builtin.firstCells i.size m x).run P w=.ok news.toArray w) (kT:n+m<=cap) {w':World}
 (jV:∀b,a=some b->(storeCells (b.add (n*i.size)) news).run P w=.ok () w') (oW:a=none->w'=w):
 (Builtin.append_ #[t,tx] ty #[.slice a n cap,x]).run P w=.ok (.slice a (n+m) cap) w':=by
 have hz:(match ux with|.int _=>true|_=>false)=false:=by
  cases ux<;>first|rfl|exact absurd rfl (hx _)
 cases a with
 |none=>
  have:=oW rfl
  subst this
  simp[Builtin.append_,run_underlying ht,run_underlying pK,hz,sizeOf,typeInfo,hi,hl,kT,hf]
 |some b=>simp[Builtin.append_,run_underlying ht,run_underlying pK,hz,sizeOf,typeInfo,hi,hl,kT,hf,jV b rfl]
theorem Qmw{P:Program}(w:World){t tx ty e:TypeId}{i:TypeInfo}{z:Value}{ux:TypeDesc}(ht:P.underlying t=some (.slice e))(pK:P.underlying tx=some ux)(hx:∀k,ux≠.int k)(hi:P.info? e=some i)(hz:i.zero=some z)
 {a:Option Addr} {n cap m:Nat} {x:Value} {k9 news:List Value} (hl:(Builtin.lenOf x).run P w=.ok m w) (hf:(Builtin.firstCells i.size m x).run P w.drew=.ok news.toArray w.drew) (hfo:(Builtin.firstCells i.size n (.slice a n cap)).run P w.drew=.ok k9.toArray w.drew)
 (hg:cap<n+m) (h63:((n+m:Nat):Int)<=9223372036854775807) (rm:Builtin.nextslicecap (n+m) cap*i.bytes<=281474976710656):
 (Builtin.append_ #[t,tx] ty #[.slice a n cap,x]).run P w=.ok (.slice (some ⟨w.heap.size,0,none⟩) (n+m) (grownCap w (n+m) cap e))
  (w.drew.alloc (.cells (k9.toArray++news.toArray++Builtin.zeroCells z.cells (grownCap w (n+m) cap e-(n+m))) e)):=by
 have hn:¬(n+m<=cap):=by omega
 have I3:¬(9223372036854775807<((n:Int)+(m:Int))):=by omega
 have Zt:¬(281474976710656<Builtin.nextslicecap (n+m) cap*i.bytes):=by omega
 simp[Builtin.append_,run_underlying ht,run_underlying pK,sizeOf,typeInfo,zeroValue,hi,hz,hl,hn,I3,Zt,Question.forced,hf,hfo,newRow,grownCap]
 congr 2
 apply fU
 simp[fF]
theorem vu{w:World}{b o:Nat}{arr:Array Value}{ty:TypeId}{fz:Nat×Nat}(h:w.heap[b]?=some (.cells arr ty fz))(j:Nat):w.cell? ((⟨b,o,none⟩:Addr).add j)=arr[o+j]? :=by
 rw[FR]
 unfold World.cell?
 simp[h]
theorem Zhm{I:ag}{w:World}{es:List (List D)}{arr:Array Value}{off sz:Nat}(h:iL I w es arr off sz)(h0:0<sz):∃news:List Value,news.length=es.length*sz/\(∀j u,news[j]?=some u->arr[off+j]?=some u)/\iL I w es news.toArray 0 sz:=by
 have ga:es.length*sz<=arr.size-off:=by
  by_cases he:es.length=0
  ·rw[he];omega
  ·obtain⟨h1,h2⟩:=wx.1 h (es.length-1) (by omega)
   obtain⟨v,hv,_⟩:=ud.1 h2 (sz-1) (by omega)
   have cj:=(Array.getElem?_eq_some_iff.1 hv).1
   have:es.length*sz=(es.length-1)*sz+sz:=by
    rw[show es.length*sz=(es.length-1+1)*sz by congr 1;omega,aW]
   omega
 refine⟨(arr.toList.drop off).take (es.length*sz),by simp;omega,λj u hj=>?_,?_⟩
 ·rw[aU]at hj
  split at hj
  ·rw[fK]at hj
   simpa using hj
  ·cases hj
 ·rw[wx]at h⊢
  intro i hi
  obtain⟨h1,h2⟩:=h i hi
  refine⟨h1,?_⟩
  rw[ud]at h2⊢
  intro j hj
  obtain⟨v,hv,hp⟩:=h2 j hj
  refine⟨v,?_,hp⟩
  have cj:i*sz+j<es.length*sz:=by
   have:=aV sz (show i+1<=es.length by omega)
   rw[aW]at this
   omega
  simp only[aX,aY]
  rw[aU,if_pos cj,fK,<-hv]
  simp[Nat.add_assoc]
theorem iL.one{I:ag}{w:World}{es:List (List D)}{news:List Value}{sz:Nat}(h:iL I w es news.toArray 0 sz)(hl:news.length=es.length*sz):∀u∈news,u.oneCell'=true:=by
 intro u hu
 obtain⟨j,hj⟩:=List.getElem?_of_mem hu
 have cj:=(List.getElem?_eq_some_iff.1 hj).1
 have h0:0<sz:=by
  rcases Nat.eq_zero_or_pos sz with h0|h0
  ·subst h0;simp at hl;rw[hl]at cj;simp at cj
  ·exact h0
 have hi:j/sz<es.length:=by rw[Nat.div_lt_iff_lt_mul h0];omega
 obtain⟨h1,h2⟩:=wx.1 h (j/sz) hi
 obtain⟨v,hv,hp⟩:=ud.1 h2 (j%sz) (by rw[h1];exact Nat.mod_lt _ h0)
 have e:0+j/sz*sz+j%sz=j:=by rw[aX,fV];exact Nat.div_add_mod j sz
 rw[e,aY,hj]at hv
 cases hv
 exact gb.one hp
theorem Zll{I:ag}{w:World}(s:List UInt8):iL I w (ao.ints .u8 (Q2 s)).l (s.map λb=>Value.int .u8 b.toNat).toArray 0 1:=by
 rw[wx]
 intro i hi
 have iJ:i<s.length:=by simpa[Q2,ao.l]using hi
 have he:(ao.ints .u8 (Q2 s)).l.getD i []=[.int .u8 s[i].toNat]:=by simp[Q2,ao.l,aK,iJ]
 rw[he]
 refine⟨rfl,?_⟩
 simp only[BU,Aw,sD,rU,sE,sF,sG,sH,tK,ug,uh,ui,uj,uk,um,uo,uq,ur,and_true]
 exact⟨_,by simp[iJ],rfl⟩
def Src(P:Program)(c:Ctx)(w:World)(v:Value)(ys:List (List D))(sz:Nat):Prop:=
 ∃news:List Value,news.length=ys.length*sz/\(Builtin.lenOf v).run P w=.ok ys.length w/\(∀k,k<=ys.length->∀w',w'.heap=w.heap->(Builtin.firstCells sz k v).run P w'=.ok (news.take (k*sz)).toArray w')/\iL c.I w ys news.toArray 0 sz
theorem JO{P:Program}{c:Ctx}{w:World}{sz sy:Nat}(h0:0<sz){es:List (List D)}{a:Option Addr}{cap:Nat}(ij:es=[]\/sy=sz/\∃b off arr ty fz,a=some ⟨b,off,none⟩/\w.heap[b]?=some (.cells arr ty fz)/\iL c.I w es arr off sy):
 Src P c w (.slice a es.length cap) es sz:=by
 rcases ij with ij|⟨hss,b,off,arr,ty,fz,ha,hh,hE⟩
 ·subst ij
  refine⟨[],by simp,by simp[Builtin.lenOf],λk hk w' _=>?_,by simp[pV,oy]⟩
  have sC:k=0:=by simpa using hk
  subst sC
  cases a with
  |none=>simp[Builtin.firstCells]
  |some a=>
   have:=run_firstCells_some (P:=P) w' sz 0 a 0 cap [] (by simp) (λj v h=>by simp at h)
   simpa using this
 ·subst hss
  obtain⟨news,g1,g2,g3⟩:=Zhm hE h0
  refine⟨news,g1,by simp[Builtin.lenOf],λk hk w' Zu=>?_,g3⟩
  subst ha
  refine run_firstCells_some (P:=P) w' sy k ⟨b,off,none⟩ _ cap (news.take (k*sy)) ?_ λj u hj=>?_
  ·have:=aV sy hk
   simp;omega
  ·rw[vu (by rw[Zu];exact hh)]
   rw[aU]at hj
   split at hj
   ·exact g2 j u hj
   ·cases hj
theorem y8{P:Program}{c:Ctx}{w:World}{R:Rows}{y:D}{v:Value}{sy sz:Nat}{ys:ao}(h0:0<sz)(h:sI R y=some (sy,ys))(hs:sy=sz\/ys.l=[])(hm:Mem c w)(hA:mO c R)(hr:Rep c w y v):Src P c w v ys.l sz:=by
 cases y<;>simp only[sI]at h<;>try(cases h;done)
 case dx=>cases h;rw[show v=_ from hr];exact JO (sy:=sz) h0 (es:=[]) (.inl rfl)
 case emp=>cases h;obtain⟨a,hv,_⟩:=hr;rw[hv];exact JO (sy:=sz) h0 (es:=[]) (.inl rfl)
 case sl s es fr=>
  cases h
  obtain⟨a,cap,hv,hc,ij⟩:=hr
  rw[hv]
  refine JO (sy:=sy) h0 ?_
  rcases ij with ij|⟨b,off,arr,ty,fz,ha,hI,hf,hh,hE⟩
  ·exact .inl ij
  ·rcases hs with hs|hs
   ·exact .inr ⟨hs,b,off,arr,ty,fz,ha,hh,hE⟩
   ·exact .inl hs
 case all r=>
  split at h
  ·rename_i ty s es hR
   cases h
   obtain⟨row,g1,g2,hv⟩:=hr
   have:=hA r row _ g1 hR
   subst this
   rcases hv with⟨hV,a,hv,_⟩|⟨hV,cap,arr,hv,g3,g4,g5,g6⟩
   ·have he:=(hm.ou g1 hV).2.1
    simp only at he
    rw[hv,he]
    exact JO (sy:=sz) h0 (es:=[]) (.inl rfl)
   ·obtain⟨iP,jE,jl,hx⟩:=hm.real g1 hV
    simp only at g5 jE hx hv
    rw[g5]at jE;cases jE
    simp only[aN,if_false]at hx
    rw[hv]
    refine JO (sy:=sy) h0 ?_
    rcases hs with hs|hs
    ·exact .inr ⟨hs,_,0,arr,_,_,rfl,g5,hx⟩
    ·exact .inl hs
  ·cases h
 case own r o n=>
  split at h
  ·rename_i ty s es hR
   cases h
   obtain⟨row,g1,g2,g5,hv⟩:=hr
   have:=hA r row _ g1 hR
   subst this
   simp only at g5
   have hlen:((es.l.drop o).take n).length=n:=by simp only[bD,bF];omega
   rw[ao.jb,ao.kq]at hs⊢
   rcases hv with⟨g7,a,hv,_⟩|⟨hV,cap,arr,g3,g4,g6,hv,g7⟩
   ·subst g7
    rw[hv]
    have:=JO (P:=P) (c:=c) (w:=w) (sy:=sz) h0 (es:=(es.l.drop o).take 0) (a:=a) (cap:=0) (.inl (by simp))
    simpa using this
   ·obtain⟨iP,jE,jl,hx⟩:=hm.real g1 hV
    simp only at g6 jE hx hv
    rw[g6]at jE;cases jE
    simp only[aN,if_false]at hx
    have hE:=Mz (n:=n) (KM (l:=o) hx)
    have:=JO (P:=P) (c:=c) (w:=w) (sy:=sy) h0 (es:=(es.l.drop o).take n) (a:=some ⟨c.ρ r,o*sy,none⟩) (cap:=cap) (by
     rcases hs with hs|hs
     ·exact .inr ⟨hs,_,o*sy,arr,_,_,rfl,g6,by simpa using hE⟩
     ·exact .inl hs)
    rw[hlen]at this
    rw[hv];exact this
  ·cases h
theorem v8{P:Program}{c:Ctx}{w:World}{R:Rows}{ke kx:TK}{y:D}{v:Value}{sy sz:Nat}{ys:ao}(h0:0<sz)(h:CR R ke kx y=some (sy,ys))(hs:sy=sz\/ys.l=[])(hm:Mem c w)(hA:mO c R)(hr:Rep c w y v):Src P c w v ys.l sz:=by
 unfold CR at h
 split at h
 ·exact y8 h0 h hs hm hA hr
 ·split at h
  ·rename_i s
   cases h
   have hv:=Rep.str.1 hr
   subst hv
   have ga:(ByteArray.mk s.toArray).size=s.length:=by simp[ByteArray.size]
   have ext:∀k,((ByteArray.mk s.toArray).extract 0 k).data.toList=s.take k:=λk=>by
    simp[ByteArray.data_extract]
   have hf:∀k w',(Builtin.firstCells sz k (.string ⟨s.toArray⟩)).run P w'=.ok ((s.map λb=>Value.int .u8 b.toNat).take k).toArray w':=λk w'=>by
    simp only[Builtin.firstCells,Sem.run_pure]
    congr 1
    apply fU
    simp only[Array.toList_map,ext,List.map_take]
   rcases hs with hs|hs
   ·subst hs
    exact⟨s.map λb=>Value.int .u8 b.toNat,by simp[Q2,ao.len],by simp[Builtin.lenOf,Q2,ao.len,ga],λk hk w' _=>by rw[hf];simp,Zll s⟩
   ·have:s=[]:=by simpa[Q2,ao.l]using hs
    subst this
    exact⟨[],by simp[Q2,ao.len],by simp[Builtin.lenOf,Q2,ao.len,ga],λk hk w' _=>by rw[hf];simp,by simp[Q2,ao.l,pV,oy]⟩
  ·cases h
 ·cases h
def Ctx.jv(c:Ctx)(k:Nat)(row:Row):Ctx:={c with R:=λr=>if r=k then some row else c.R r,V:=λr=>r=k\/c.V r}
theorem S0{c:Ctx}{w:World}{k:Nat}(hk:c.R k=none)(row:Row):jn c w (c.jv k row) w:=by
 refine⟨rfl,aO _,λb hb=>⟨hb,rfl⟩,λr x hr=>?_⟩
 have gr:r≠k:=λe=>by rw[e,hk]at hr;cases hr
 exact⟨x,by simp[Ctx.jv,gr,hr],rfl,rfl,rfl,rfl,rfl,by simp[Ctx.jv,gr],λ_ arr ha=>⟨arr,ha,rfl⟩⟩
theorem WV{c:Ctx}{w:World}(hm:Mem c w){k:Nat}(hk:c.R k=none){row:Row}(hb:row.box=false)(he:row.es.l=[])(h0:0<row.sz):Mem (c.jv k row) w:=by
 have hg:=S0 (w:=w) hk row
 have inv:∀r x,(c.jv k row).R r=some x->¬(c.jv k row).V r->c.R r=some x/\¬c.V r:=λr x hr hv=>by
  have h1:¬r=k:=λe=>hv (.inl e)
  exact⟨by simpa[Ctx.jv,h1]using hr,λe=>hv (.inr e)⟩
 refine⟨λr x hr=>?_,λr s x y hr hs v1 v2 h=>?_,λb iK=>⟨(hm.fu b iK).1,λr x hr v=>?_⟩,hm.top,hm.kR⟩
 ·by_cases e:r=k
  ·subst e
   simp only[Ctx.jv,if_true,Option.some.injEq]at hr
   subst hr
   exact .inl ⟨.inl rfl,hb,he,h0⟩
  ·have nH:c.R r=some x:=by simpa[Ctx.jv,e]using hr
   exact ue hg rfl (by simp[Ctx.jv,e]) (λ_=>rfl) (hm.row r x nH)
 ·obtain⟨h1,h2⟩:=inv r x hr v1
  obtain⟨h3,h4⟩:=inv s y hs v2
  exact hm.inj r s x y h1 h3 h2 h4 h
 ·obtain⟨h1,h2⟩:=inv r x hr v
  exact(hm.fu b iK).2 r x h1 h2
theorem Nr(c:Ctx)(w:World):jn c w c w.drew:=⟨rfl,aO _,λb hb=>⟨hb,rfl⟩,λr row hr=>⟨row,hr,rfl,rfl,rfl,rfl,rfl,Iff.rfl,λ_ arr ha=>⟨arr,ha,rfl⟩⟩⟩
theorem KK{c:Ctx}{w:World}(h:Mem c w):Mem c w.drew:=
 ⟨λr row hr=>ue (Nr c w) rfl Iff.rfl (λ_=>rfl) (h.row r row hr),h.inj,h.fu,h.top,h.kR⟩
theorem Zv{I:ag}{w:World}{es ys:List (List D)}{A B C:List Value}{sz:Nat}(h1:iL I w es A.toArray 0 sz)(hA:A.length=es.length*sz)(h2:iL I w ys B.toArray 0 sz)(hB:B.length=ys.length*sz):iL I w (es++ys) (A++B++C).toArray 0 sz:=by
 rw[wx]at h1 h2⊢
 intro i hi
 by_cases cj:i<es.length
 ·have he:(es++ys).getD i []=es.getD i []:=by simp[aK,aZ cj]
  rw[he]
  obtain⟨g1,g2⟩:=h1 i cj
  refine⟨g1,?_⟩
  rw[ud]at g2⊢
  intro j hj
  obtain⟨v,hv,hp⟩:=g2 j hj
  refine⟨v,?_,hp⟩
  have hl:=(Array.getElem?_eq_some_iff.1 hv).1
  simp only[aY,bA]at hv hl⊢
  rw[fF,aZ hl];exact hv
 ·have iJ:i-es.length<ys.length:=by simp at hi;omega
  have he:(es++ys).getD i []=ys.getD (i-es.length) []:=by simp[aK,bB (show es.length<=i by omega)]
  rw[he]
  obtain⟨g1,g2⟩:=h2 _ iJ
  refine⟨g1,?_⟩
  rw[ud]at g2⊢
  intro j hj
  obtain⟨v,hv,hp⟩:=g2 j hj
  refine⟨v,?_,hp⟩
  have hl:=(Array.getElem?_eq_some_iff.1 hv).1
  simp only[aY,bA]at hv hl⊢
  have e:0+i*sz+j=A.length+(0+(i-es.length)*sz+j):=by
   rw[hA,show i*sz=(es.length+(i-es.length))*sz by congr 1;omega,bC];omega
  rw[e,fF,bB (by omega),aZ (by omega)]
  rw[show A.length+(0+(i-es.length)*sz+j)-A.length=0+(i-es.length)*sz+j by omega]
  exact hv
theorem yQ{c:Ctx}{w:World}(hm:Mem c w){r k:Nat}{row ak:Row}{cur arr:Array Value}(hr:c.R r=some row)(hV:¬c.V r)(hk:c.R k=none)(hh:w.heap[c.ρ r]?=some (.cells cur row.ty (0,0)))(UN:ak.ty=row.ty)(h0:0<ak.sz)(hb:ak.box=false)
 (hE:∀w',(∀b,c.I b->w'.heap[b]?=w.heap[b]?)->iL c.I w' ak.es.l arr 0 ak.sz):
 jn (c.kill [r]) w ((c.kill [r]).add k ak (c.ρ r)) (w.setRow (c.ρ r) arr)/\Mem ((c.kill [r]).add k ak (c.ρ r)) (w.setRow (c.ρ r) arr):=by
 have Cj:=Zs (ks:=[r]) hm
 have FT:(c.kill [r]).R k=none:=by simp[Ctx.kill,hk]
 have oW:∀s x,(c.kill [r]).R s=some x->s≠r/\s≠k:=λs x hs=>by
  obtain⟨h1,j7,h2,_⟩:=ox hs
  refine⟨λe=>?_,λe=>by rw[e,FT]at hs;cases hs⟩
  rw[e]at h1
  have:=oz (r:=r) (l:=[r])
  simp[h1]at this
 have fi:(w.setRow (c.ρ r) arr).heap[c.ρ r]?=some (.cells arr row.ty (0,0)):=setRow_heap w _ _ _ _ _ hh
 have CS:∀s x,(c.kill [r]).R s=some x->¬c.V s->(w.setRow (c.ρ r) arr).heap[c.ρ s]?=w.heap[c.ρ s]? :=λs x hs v=>setRow_other w _ _ _ λe=>by
  obtain⟨_,j7,h2,_⟩:=ox hs
  exact(oW s x hs).1 (hm.inj s r j7 row h2 hr v hV e)
 have hI:∀b,c.I b->(w.setRow (c.ρ r) arr).heap[b]?=w.heap[b]? :=λb hb=>setRow_other w _ _ _ (λe=>(hm.fu b hb).2 r row hr hV e.symm)
 have hg:jn (c.kill [r]) w ((c.kill [r]).add k ak (c.ρ r)) (w.setRow (c.ρ r) arr):=by
  refine⟨rfl,aO _,λb hb=>⟨hb,hI b hb⟩,λs x hs=>?_⟩
  obtain⟨n1,n2⟩:=oW s x hs
  exact⟨x,by simp[Ctx.add,n2,hs],rfl,rfl,rfl,rfl,by simp[Ctx.add,n2],by simp[Ctx.add,n2],λv a ha=>⟨a,(CS s x hs v).trans ha,rfl⟩⟩
 have inv:∀s x,((c.kill [r]).add k ak (c.ρ r)).R s=some x->¬((c.kill [r]).add k ak (c.ρ r)).V s->(s=k/\((c.kill [r]).add k ak (c.ρ r)).ρ s=c.ρ r)\/(s≠k/\s≠r/\((c.kill [r]).add k ak (c.ρ r)).ρ s=c.ρ s/\¬c.V s/\∃y,c.R s=some y):=λs x hs v=>by
  by_cases e:s=k
  ·exact .inl ⟨e,by simp[Ctx.add,e]⟩
  ·have jl:(c.kill [r]).R s=some x:=by simpa[Ctx.add,e]using hs
   obtain⟨_,y,hy,_⟩:=ox jl
   have v':¬c.V s:=λh=>v (by simp only[Ctx.add];exact⟨e,h⟩)
   exact .inr ⟨e,(oW s x jl).1,by simp[Ctx.add,e,Ctx.kill],v',y,hy⟩
 refine⟨hg,⟨λs x hs=>?_,λs q x y hs hq v1 v2 he=>?_,λb iK=>?_,by show c.top<=(w.setRow _ _).heap.size;simpa[World.setRow]using hm.top,hm.kR.mono hg.I⟩⟩
 ·by_cases e:s=k
  ·subst e
   simp only[Ctx.add,if_true,Option.some.injEq]at hs
   subst hs
   refine .inr ⟨by simp[Ctx.add],arr,by simp only[Ctx.add,if_true];rw[UN];exact fi,h0,?_⟩
   rw[hb]
   simp only[aN,if_false]
   exact hE _ hI
  ·have jl:(c.kill [r]).R s=some x:=by simpa[Ctx.add,e]using hs
   exact ue hg (by simp[Ctx.add,e]) (by simp[Ctx.add,e]) (λv=>CS s x jl v) (Cj.row s x jl)
 ·rcases inv s x hs v1 with⟨e1,p1⟩|⟨e1,p1,p2,p3,y1,p4⟩<;>rcases inv q y hq v2 with⟨e2,q1⟩|⟨e2,q1,q2,q3,y2,q4⟩
  ·rw[e1,e2]
  ·rw[p1,q2]at he
   exact(q1 (hm.inj q r y2 row q4 hr q3 hV he.symm)).elim
  ·rw[p2,q1]at he
   exact(p1 (hm.inj s r y1 row p4 hr p3 hV he)).elim
  ·rw[p2,q2]at he
   exact hm.inj s q y1 y2 p4 q4 p3 q3 he
 ·refine⟨by simpa[World.setRow]using(hm.fu b iK).1,λs x hs v=>?_⟩
  rcases inv s x hs v with⟨e1,p1⟩|⟨e1,p1,p2,p3,y1,p4⟩
  ·rw[p1];exact(hm.fu b iK).2 r row hr hV
  ·rw[p2];exact(hm.fu b iK).2 s y1 p4 p3
def BX(P:Program)(o:Oper)(ev:Operand->D)(R:Rows)(ks:List Nat)(val:D)(R':Rows):Prop:=
 ∀ (c:Ctx) (w:World) (a:Act),Mem c w->c.base<=w.heap.size->(∀r,c.R r=R.getD r none)->(∀x∈o.op.operands,Rep c w (ev x) (a.eval x))->
  ∀K Q,(∀v w' c',jH ks c w c' w'->(∀r,c'.R r=R'.getD r none)->Rep c' w' val v->K (a.put o.dst v) w')->o.ny P a w K Q
theorem EY.toK{P:Program}{o:Oper}{ev:Operand->D}{R:Rows}{val:D}{R':Rows}(h:EY P o ev R val R'):BX P o ev R [] val R':=
 λc w a hm hb hR ey K Q hK=>h c w a hm hb hR ey K Q λv w' c' hn j4 hv=>hK v w' c' hn.toK j4 hv
section
variable {P:Program} {c:Ctx} {w:World} {R:Rows} {ks:List Nat} {e sz lX:Nat} {es ys:ao}
theorem UO{row:Row}{ρ':Nat->Nat}{V':Nat->Prop}(hR:∀r,c.R r=R.getD r none):∀r,(if r=R.length then some row else(c.kill ks).R r)=(se ks R 0++[some row]).getD r none:=by
 intro r
 by_cases e:r=R.length
 ·subst e
  simp[aK,bB,JN]
 ·rw[if_neg e]
  by_cases cj:r<R.length
  ·rw[aK,aZ (by rw[JN];exact cj),<-aK,P7]
   simp[Ctx.kill,hR]
  ·rw[aK,aM (by simp[JN];omega)]
   simp[Ctx.kill,hR,aM (show R.length<=r by omega)]
theorem append_empty{t tx ty:TypeId}{i:TypeInfo}{z:Value}{ux:TypeDesc}(ht:P.underlying t=some (.slice e))(pK:P.underlying tx=some ux)(hx: ∀k,ux≠ .int k)(hi:P.info? e=some i)(hz:i.zero=some z)(ga:i.size=sz)(uQ:i.bytes=lX)(FU:z.cells.size=sz)
    (hm:Mem c w) (hb:c.base<=w.heap.size) (hR: ∀r,c.R r=R.getD r none) (h0:0<sz) (pJ:0<lX) (oI:lX*(0+ys.l.length)<=140737488355328) {a:Option Addr} (AI:AH c.top a) {vy:Value} (hs:Src P c w vy ys.l sz):
    ∃v' w' c',(Builtin.append_ #[t,tx] ty #[.slice a 0 0,vy]).run P w= .ok v' w'/\jH ks c w c' w'/\(∀r,c'.R r=(se ks R 0++[some (⟨false,e,sz,ys⟩:Row)]).getD r none)/\Rep c' w' (.all R.length) v':=by
  obtain⟨news,g1,g2,g3,g4⟩:=hs
  have hk:c.R R.length=none:=by rw[hR];simp [aK]
  have FT:(c.kill ks).R R.length=none:=by simp [Ctx.kill,hk]
  have Cj:=Zs (ks:=ks) hm
  subst ga
  by_cases hm0:ys.l.length=0
  . have S6:ys.l=[]:=fR hm0
    have hn:news=[]:=fR (by rw[g1,hm0];simp)
    subst hn
    rw[S6]at g2 g3
    have ig:=Qn7 (P:=P) w (ty:=ty) (n:=0) (cap:=0) (a:=a) (w':=w) ht pK hx hi g2 (by simpa using g3 0 (aO _) w rfl) (by simp) (λb _=>by simp [storeCells]) (λ_=>rfl)
    refine⟨_,w,(c.kill ks).jv R.length ⟨false,e,i.size,ys⟩,ig,⟨WV Cj FT rfl S6 h0,S0 FT _,Fr.refl _ w,λb hb=> .inl hb,λr ak h1 h2=> ?_⟩,UO (ρ':=c.ρ) (V':=c.V) hR,?_⟩
    . have gr:r≠R.length:=λe=>h2 (.inl e)
      have pw:(c.kill ks).R r=some ak:=by simpa [Ctx.jv,gr] using h1
      obtain⟨_,j7,h3,_⟩:=ox pw
      exact .inl ⟨⟨j7,h3⟩,λe=>h2 (.inr e),rfl⟩
    . exact⟨⟨false,e,i.size,ys⟩,by simp [Ctx.jv],rfl, .inl ⟨.inl rfl,a,rfl,AI⟩⟩
  . have hlen:(0+ys.l.length:Nat)*i.bytes<=140737488355328:=by rw[uQ,fV];exact oI
    have Us:0+ys.l.length<=140737488355328:=bH (fW _ (by rw[uQ];exact pJ)) hlen
    have Zw:0+ys.l.length<=maxLen:=by unfold maxLen;omega
    have ig:=Qmw (P:=P) w (ty:=ty) (n:=0) (cap:=0) (a:=a) (k9:=[]) (news:=news) ht pK hx hi hz g2
      (by have:=g3 _ (aO _) w.drew rfl;rwa [fO (by omega)]at this)
      (by cases a with
          |none=>simp [Builtin.firstCells]
          |some a=>simpa using run_firstCells_some (P:=P) w.drew i.size 0 a 0 0 [] (by simp) (λj v h=>by simp at h)) (by omega) (by omega) (growslice_fits (by omega) hlen)
    have pS:=grownCap_ge w (0+ys.l.length) 0 e
    have AG:grownCap w (0+ys.l.length) 0 e<=maxLen:=grownCap_le_maxLen w _ _ e Zw
    generalize grownCap w (0+ys.l.length) 0 e=gc at ig pS AG
    have mC:(#[]++news.toArray++Builtin.zeroCells z.cells (gc-(0+ys.l.length))).size=gc*i.size:=by
      have e1:(#[]++news.toArray++Builtin.zeroCells z.cells (gc-(0+ys.l.length))).size=ys.l.length*i.size+(gc-(0+ys.l.length))*i.size:=by
        simp [size_zeroCells,FU,g1]
      rw[e1,<-bC]
      congr 1;omega
    have hE: ∀(I:ag) (w':World),(∀b,c.I b->I b/\w'.heap[b]? =w.heap[b]?)->iL I w' ys.l (#[]++news.toArray++Builtin.zeroCells z.cells (gc-(0+ys.l.length))) 0 i.size:=λI w' h=>by
      have:=Zv (I:=I) (w:=w') (es:=[]) (ys:=ys.l) (A:=[]) (B:=news) (C:=(Builtin.zeroCells z.cells (gc-(0+ys.l.length))).toList) (sz:=i.size) (by simp [pV,oy]) (by simp) (ot h _ _ _ _ g4) g1
      have h2:(#[]++news.toArray++Builtin.zeroCells z.cells (gc-(0+ys.l.length)))=([]++news++(Builtin.zeroCells z.cells (gc-(0+ys.l.length))).toList).toArray:=by apply fU;simp
      rw[h2];simpa using this
    have HF:=Mem.alloc (w:=w.drew) (KK Cj) FT ⟨false,e,i.size,ys⟩ (#[]++news.toArray++Builtin.zeroCells z.cells (gc-(0+ys.l.length))) h0 (by
      simp only[aN,if_false]
      exact hE _ _ λb hb=>⟨hb,rfl⟩)
    have oJ:=Zx (c:=c.kill ks) (w:=w.drew) (k:=R.length) (e:=e) (sz:=i.size) (cap:=gc) (es:=ys) (arr:= #[]++news.toArray++Builtin.zeroCells z.cells (gc-(0+ys.l.length))) (by omega) AG mC.symm
    refine⟨_,_,(c.kill ks).add R.length ⟨false,e,i.size,ys⟩ w.heap.size,ig,⟨HF,(Nr _ w).trans (jn.alloc (w:=w.drew) (KK Cj) FT _ _),?_,λb hb=> .inl hb,λr ak h1 h2=> ?_⟩,UO (ρ':=c.ρ) (V':=c.V) hR,by have h3:=oJ;simp only[aX]at h3⊢;exact h3⟩
    . exact Fr.trans (w':=w.drew) ⟨rfl,rfl,rfl,aO _,λ_ _ _=>rfl⟩ (Fr.alloc _ w.drew _)
    . by_cases e1:r=R.length
      . subst e1
        right;right
        simp [Ctx.add]
      . have pw:(c.kill ks).R r=some ak:=by simpa [Ctx.add,e1] using h1
        obtain⟨_,j7,h3,_⟩:=ox pw
        exact .inl ⟨⟨j7,h3⟩,by simpa [Ctx.add,e1,Ctx.kill] using h2,by simp [Ctx.add,e1,Ctx.kill]⟩
theorem Zh3{t tx ty:TypeId}{i:TypeInfo}{z:Value}{ux:TypeDesc}(ht:P.underlying t=some (.slice e))(pK:P.underlying tx=some ux)(hx:∀k,ux≠.int k)(hi:P.info? e=some i)(hz:i.zero=some z)(ga:i.size=sz)(uQ:i.bytes=lX)(FU:z.cells.size=sz)
 (hm:Mem c w) (hb:c.base<=w.heap.size) (hR:∀r,c.R r=R.getD r none) (h0:0<sz) (pJ:0<lX) (oI:lX*(es.l.length+ys.l.length)<=140737488355328) {r:Nat} {row:Row} (q1:c.R r=some row) (UN:row.ty=e) (hV:¬c.V r) {cap:Nat} {cur:Array Value} (h1:es.l.length<=cap) (h2:cap<=maxLen) (h3:w.heap[c.ρ r]?=some (.cells cur e (0,0))) (h4:cap*sz=cur.size) (JP:iL c.I w es.l cur 0 sz) {vy:Value} (hs:Src P c w vy ys.l sz):
 ∃v' w' c',(Builtin.append_ #[t,tx] ty #[.slice (some ⟨c.ρ r,0,none⟩) es.l.length cap,vy]).run P w=.ok v' w'/\jH [r] c w c' w'/\(∀q,c'.R q=(se [r] R 0++[some (⟨false,e,sz,es.app ys⟩:Row)]).getD q none)/\Rep c' w' (.all R.length) v':=by
 obtain⟨news,g1,g2,g3,g4⟩:=hs
 have hk:c.R R.length=none:=by rw[hR];simp[aK]
 have FT:(c.kill [r]).R R.length=none:=by simp[Ctx.kill,hk]
 have Cj:=Zs (ks:=[r]) hm
 subst ga
 have hlen:(es.l.length+ys.l.length)*i.bytes<=140737488355328:=by rw[uQ,fV];exact oI
 have Us:es.l.length+ys.l.length<=140737488355328:=bH (fW _ (by rw[uQ];exact pJ)) hlen
 have Zw:es.l.length+ys.l.length<=maxLen:=by unfold maxLen;omega
 obtain⟨k9,o1,o2,o3⟩:=Zhm JP h0
 by_cases kT:es.l.length+ys.l.length<=cap
 ·have rm:es.l.length*i.size+0+news.length<=cur.size:=by rw[g1,<-h4,bG,<-bC];exact aV _ kT
  have jV:=run_storeCells_at (P:=P) (c.ρ r) (es.l.length*i.size) e news 0 cur w h3 rm (iL.one g4 g1)
  simp only[bG]at jV rm
  have ig:=Qn7 (P:=P) w (ty:=ty) (n:=es.l.length) (cap:=cap) (a:=some ⟨c.ρ r,0,none⟩) ht pK hx hi g2 (by have:=g3 _ (aO _) w rfl;rwa [fO (by omega)]at this) kT (λb hb=>by cases hb;rw[Addr.add_lit,aX];exact jV) (λh=>by cases h)
  have hE:∀w',(∀b,c.I b->w'.heap[b]?=w.heap[b]?)->iL c.I w' (es.app ys).l (cur.toList.take (es.l.length*i.size)++news++cur.toList.drop (es.l.length*i.size+news.length)).toArray 0 i.size:=λw' h=>by
   rw[ao.j6]
   refine Zv (A:=cur.toList.take (es.l.length*i.size)) (ot (λb hb=>⟨hb,h b hb⟩) _ _ _ _ ?_) (by rw[bD,show cur.toList.length=cur.size from rfl];omega) (ot (λb hb=>⟨hb,h b hb⟩) _ _ _ _ g4) g1
   have:cur.toList.take (es.l.length*i.size)=k9:=by
    apply List.ext_getElem?
    intro j
    by_cases hj:j<k9.length
    ·have:=o2 j _ (cG hj)
     rw[aU,if_pos (by omega),cG hj]
     simpa using this
    ·rw[aM (by rw[bD];omega),aM (by omega)]
   rw[this];exact o3
  obtain⟨k1,k2⟩:=yQ hm (k:=R.length) (ak:=⟨false,e,i.size,es.app ys⟩) q1 hV hk (by rw[UN];exact h3) UN.symm h0 rfl hE
  refine⟨_,_,_,ig,⟨k2,k1,(SS w _ _).mono λb _ hb=>⟨r,_,q1,hV,hb.symm⟩,λb hb=>.inl hb,λq ak p1 p2=>?_⟩,UO (ρ':=c.ρ) (V':=c.V) hR,?_⟩
  ·by_cases e1:q=R.length
   ·subst e1
    exact .inr (.inl ⟨r,_,by simp[cb],q1,hV,by simp[Ctx.add]⟩)
   ·have pw:(c.kill [r]).R q=some ak:=by simpa[Ctx.add,e1]using p1
    obtain⟨_,j7,JI,_⟩:=ox pw
    exact .inl ⟨⟨j7,JI⟩,by simpa[Ctx.add,e1,Ctx.kill]using p2,by simp[Ctx.add,e1,Ctx.kill]⟩
  ·refine⟨⟨false,e,i.size,es.app ys⟩,by simp[Ctx.add],rfl,.inr ⟨by simp[Ctx.add],cap,(cur.toList.take (es.l.length*i.size)++news++cur.toList.drop (es.l.length*i.size+news.length)).toArray,?_,by rw[ao.j6,lA];exact kT,h2,?_,?_⟩⟩
   ·simp only[Ctx.add,if_true,ao.j6,lA]
   ·simp only[Ctx.add,if_true];exact setRow_heap w _ _ _ _ _ h3
   ·simp only[bA,lA,bD,bF,Array.length_toList]
    rw[h4];omega
 ·have ig:=Qmw (P:=P) w (ty:=ty) (n:=es.l.length) (cap:=cap) (a:=some ⟨c.ρ r,0,none⟩) (k9:=k9) (news:=news) ht pK hx hi hz g2
   (by have:=g3 _ (aO _) w.drew rfl;rwa [fO (by omega)]at this)
   (run_firstCells_some (P:=P) w.drew i.size es.l.length _ _ cap k9 o1 λj v hj=>by
    rw[vu (w:=w.drew) h3];exact o2 j v hj) (by omega) (by omega) (growslice_fits (by omega) hlen)
  have pS:=grownCap_ge w (es.l.length+ys.l.length) cap e
  have AG:grownCap w (es.l.length+ys.l.length) cap e<=maxLen:=grownCap_le_maxLen w _ _ e Zw
  generalize grownCap w (es.l.length+ys.l.length) cap e=gc at ig pS AG
  have mC:(k9.toArray++news.toArray++Builtin.zeroCells z.cells (gc-(es.l.length+ys.l.length))).size=gc*i.size:=by
   have e1:(k9.toArray++news.toArray++Builtin.zeroCells z.cells (gc-(es.l.length+ys.l.length))).size=es.l.length*i.size+ys.l.length*i.size+(gc-(es.l.length+ys.l.length))*i.size:=by
    simp[size_zeroCells,FU,g1,o1]
   rw[e1,<-bC,<-bC]
   congr 1;omega
  have hE:∀(I:ag) (w':World),(∀b,c.I b->I b/\w'.heap[b]?=w.heap[b]?)->iL I w' (es.app ys).l (k9.toArray++news.toArray++Builtin.zeroCells z.cells (gc-(es.l.length+ys.l.length))) 0 i.size:=λI w' h=>by
   rw[ao.j6]
   have:=Zv (I:=I) (w:=w') (es:=es.l) (ys:=ys.l) (A:=k9) (B:=news) (C:=(Builtin.zeroCells z.cells (gc-(es.l.length+ys.l.length))).toList) (sz:=i.size) (ot h _ _ _ _ o3) o1 (ot h _ _ _ _ g4) g1
   have h2:(k9.toArray++news.toArray++Builtin.zeroCells z.cells (gc-(es.l.length+ys.l.length)))=(k9++news++(Builtin.zeroCells z.cells (gc-(es.l.length+ys.l.length))).toList).toArray:=by apply fU;simp
   rw[h2];exact this
  have HF:=Mem.alloc (w:=w.drew) (KK Cj) FT ⟨false,e,i.size,es.app ys⟩ (k9.toArray++news.toArray++Builtin.zeroCells z.cells (gc-(es.l.length+ys.l.length))) h0 (by
   simp only[aN,if_false]
   exact hE _ _ λb hb=>⟨hb,rfl⟩)
  have oJ:=Zx (c:=c.kill [r]) (w:=w.drew) (k:=R.length) (e:=e) (sz:=i.size) (cap:=gc) (es:=es.app ys) (arr:=k9.toArray++news.toArray++Builtin.zeroCells z.cells (gc-(es.l.length+ys.l.length))) (by rw[ao.j6,lA];omega) AG mC.symm
  refine⟨_,_,(c.kill [r]).add R.length ⟨false,e,i.size,es.app ys⟩ w.heap.size,ig,⟨HF,(Nr _ w).trans (jn.alloc (w:=w.drew) (KK Cj) FT _ _),?_,λb hb=>.inl hb,λq ak p1 p2=>?_⟩,UO (ρ':=c.ρ) (V':=c.V) hR,by rw[ao.j6,lA]at oJ;exact oJ⟩
  ·exact Fr.trans (w':=w.drew) ⟨rfl,rfl,rfl,aO _,λ_ _ _=>rfl⟩ (Fr.alloc _ w.drew _)
  ·by_cases e1:q=R.length
   ·subst e1
    right;right
    simp[Ctx.add]
   ·have pw:(c.kill [r]).R q=some ak:=by simpa[Ctx.add,e1]using p1
    obtain⟨_,j7,JI,_⟩:=ox pw
    exact .inl ⟨⟨j7,JI⟩,by simpa[Ctx.add,e1,Ctx.kill]using p2,by simp[Ctx.add,e1,Ctx.kill]⟩
theorem Zoo{t tx ty:TypeId}{i:TypeInfo}{z:Value}{ux:TypeDesc}(ht:P.underlying t=some (.slice e))(pK:P.underlying tx=some ux)(hx:∀k,ux≠.int k)(hi:P.info? e=some i)(hz:i.zero=some z)(ga:i.size=sz)(uQ:i.bytes=lX)(FU:z.cells.size=sz)
 (hm:Mem c w) (hb:c.base<=w.heap.size) (hR:∀r,c.R r=R.getD r none) (h0:0<sz) (pJ:0<lX) (oI:lX*(es.l.length+ys.l.length)<=140737488355328) {r:Nat} (hr:R.getD r none=some ⟨false,e,sz,es⟩) {vx vy:Value} (Zy:Rep c w (.all r) vx) (hs:Src P c w vy ys.l sz):
 ∃v' w' c',(Builtin.append_ #[t,tx] ty #[vx,vy]).run P w=.ok v' w'/\jH [r] c w c' w'/\(∀q,c'.R q=(se [r] R 0++[some (⟨false,e,sz,es.app ys⟩:Row)]).getD q none)/\Rep c' w' (.all R.length) v':=by
 obtain⟨row,q1,q2,hv⟩:=Zy
 have cg:row=⟨false,e,sz,es⟩:=by rw[hR,hr]at q1;exact(Option.some.inj q1).symm
 subst cg
 rcases hv with⟨hV,a,hv,AI⟩|⟨hV,cap,cur,hv,h1,h2,h3,h4⟩
 ·have he:=(hm.ou q1 hV).2.1
  simp only at he
  subst hv
  have hl:(es.app ys).l=ys.l:=by rw[ao.j6,he];rfl
  exact append_empty (ks:=[r]) (ys:=es.app ys) ht pK hx hi hz ga uQ FU hm hb hR h0 pJ (by rw[hl];rw[he]at oI;simpa using oI) AI (by rw[hl];exact hs)
 ·have hl:=hm.real q1 hV
  obtain⟨NS,jE,_,JP⟩:=hl
  simp only at h1 h3 h4 hv jE
  subst hv
  rw[h3]at jE;cases jE
  simp only[aN,if_false]at JP
  exact Zh3 ht pK hx hi hz ga uQ FU hm hb hR h0 pJ oI q1 rfl hV h1 h2 h3 h4 JP hs
theorem Zql{n:Nat}{t tx ty:TypeId}{i:TypeInfo}{z:Value}{ux:TypeDesc}(ht:P.underlying t=some (.slice e))(pK:P.underlying tx=some ux)(hx:∀k,ux≠.int k)(hi:P.info? e=some i)(hz:i.zero=some z)(ga:i.size=sz)(uQ:i.bytes=lX)(FU:z.cells.size=sz)
 (hm:Mem c w) (hb:c.base<=w.heap.size) (hR:∀r,c.R r=R.getD r none) (h0:0<sz) (pJ:0<lX) (oI:lX*((es.take n).l.length+ys.l.length)<=140737488355328) {r:Nat} (hr:R.getD r none=some ⟨false,e,sz,es⟩) {vx vy:Value} (Zy:Rep c w (.own r 0 n) vx) (hs:Src P c w vy ys.l sz):
 ∃v' w' c',(Builtin.append_ #[t,tx] ty #[vx,vy]).run P w=.ok v' w'/\jH [r] c w c' w'/\(∀q,c'.R q=(se [r] R 0++[some (⟨false,e,sz,(es.take n).app ys⟩:Row)]).getD q none)/\Rep c' w' (.all R.length) v':=by
 obtain⟨row,q1,q2,hle,hv⟩:=Zy
 have cg:row=⟨false,e,sz,es⟩:=by rw[hR,hr]at q1;exact(Option.some.inj q1).symm
 subst cg
 have hln:(es.take n).l.length=n:=by rw[ao.jb,bD];simp only at hle;omega
 rcases hv with⟨P6,a,hv,AI⟩|⟨hV,cap,cur,h1,h2,h3,hv,h4⟩
 ·subst hv;subst P6
  have MA:(es.take 0).l=[]:=by rw[ao.jb];rfl
  have hl:((es.take 0).app ys).l=ys.l:=by rw[ao.j6,MA];rfl
  have g:jn c w {c with top:=w.heap.size} w:=⟨rfl,hm.top,λb hb=>⟨hb,rfl⟩,λr row hr=>⟨row,hr,rfl,rfl,rfl,rfl,rfl,Iff.rfl,λnv arr ha=>⟨arr,ha,rfl⟩⟩⟩
  have IL:Mem {c with top:=w.heap.size} w:=⟨λr row hr=>ue g rfl Iff.rfl (λ_=>rfl) (hm.row r row hr),hm.inj,hm.fu,aO _,hm.kR⟩
  have GH:AH w.heap.size a:=by
   rcases AI with h|⟨hV,h⟩
   ·exact h.mono hm.top
   ·exactλx hx=>by rw[h x hx];exact hm.lt q1 hV
  obtain⟨v',w',c',p1,p2,p3,p4⟩:=append_empty (c:={c with top:=w.heap.size}) (ks:=[r]) (ys:=(es.take 0).app ys) ht pK hx hi hz ga uQ FU IL hb hR h0 pJ (by rw[hl];rw[MA]at oI;simpa using oI) GH (by rw[hl];exact hs)
  refine⟨v',w',c',p1,⟨p2.mem,?_,p2.fr,p2.fu,p2.ov⟩,p3,p4⟩
  have g':jn (c.kill [r]) w (Ctx.kill {c with top:=w.heap.size} [r]) w:=⟨rfl,hm.top,λb hb=>⟨hb,rfl⟩,λr row hr=>⟨row,hr,rfl,rfl,rfl,rfl,rfl,Iff.rfl,λnv arr ha=>⟨arr,ha,rfl⟩⟩⟩
  exact g'.trans p2.cf
 ·obtain⟨NS,jE,_,JP⟩:=hm.real q1 hV
  simp only at h3 h4 hv jE
  rw[h3]at jE;cases jE
  simp only[aN,if_false]at JP
  have hE1:iL c.I w (es.take n).l cur 0 sz:=by rw[ao.jb];exact Mz JP
  rw[hv,show((0:Nat)*sz)=0 from Nat.zero_mul _]
  have:=Zh3 (ty:=ty) (es:=es.take n) (cap:=cap) ht pK hx hi hz ga uQ FU hm hb hR h0 pJ oI q1 rfl hV (by rw[hln];exact h1) h2 h3 (by rw[<-h4,aX]) hE1 hs
  rw[hln]at this
  exact this
end
theorem SR{E:ao}(h:IX E=true):E.l=[]:=by
 unfold IX at h
 split at h
 ·rfl
 ·cases h
theorem Znc{P:Program}{T:fq}(hT:jB P T){M:Nat}{t tx ty:TypeId}{x y:D}{R:Rows}{K:List Nat->D->Rows->Prop}(h:MB T M t tx x y R K):
    ∃ ks R',K ks (.all R.length) R'/\(∀k,cb k ks=true->M<=k)/\ ∀c w vx vy,Mem c w->c.base<=w.heap.size->(∀r,c.R r=R.getD r none)->Rep c w x vx->Rep c w y vy->
      ∃v' w' c',(Builtin.append_ #[t,tx] ty #[vx,vy]).run P w= .ok v' w'/\jH ks c w c' w'/\(∀r,c'.R r=R'.getD r none)/\Rep c' w' (.all R.length) v':=by
  unfold MB at h
  split at h
  . rename_i e iO _ _ _ _ _ ht
    have hk:=nb hT ht
    simp only at hk
    split at h
    . rename_i ke sz lX cs z q kx _ _ _ _ _ he htx
      obtain⟨i,u,hi,hu,JQ,hs,hb,hc,hzero⟩:=JR hT he
      have UP:=nb hT htx
      split at h
      . rename_i sy ys j5
        simp only[db,aE,Bool.or_eq_true]at h
        obtain⟨⟨⟨⟨h0,h1⟩,h2,h3⟩,h4,h5⟩,h⟩:=h
        have h0:0<sz:=lE h0
        have pJ:0<lX:=lE h4
        have h2:=bE h2
        have h5:sy=sz\/ys.l=[]:=h5.imp bE SR
        have w5:u.cells.size=sz:=by have:=P8 JQ;simp at this;omega
        obtain⟨ux,pK,nL⟩: ∃ux,P.underlying tx=some ux/\ ∀k,ux≠ .int k:=by
          unfold CR at j5
          split at j5
          . simp only at UP;exact⟨_,UP.1,λk e=>by cases e⟩
          . simp only at UP;exact⟨_,UP,λk e=>by cases e⟩
          . cases j5
        have w6: ∀(c:Ctx) (w:World) (vy:Value),Mem c w->(∀r,c.R r=R.getD r none)->Rep c w y vy->Src P c w vy ys.l sz:=λc w vy hm hR hy=>v8 h0 j5 h5 hm (λr row ak g1 g2=>by rw[hR,g2]at g1;exact(Option.some.inj g1).symm) hy
        cases x<;>simp only at h
        case dx=>
          simp only[CU,db,decide_eq_true_eq,nz,<-ao.iy]at h
          refine⟨_,_,h.2,λk hk=>by simp [cb]at hk,λc w vx vy hm tM hR hx hy=> ?_⟩
          rw[show vx=_ from hx]
          have hl:((ao.gen []).app ys).l=ys.l:=by rw[ao.j6];rfl
          exact append_empty (ks:=[]) (ys:=(ao.gen []).app ys) hk.1 pK nL hi hu hs hb w5 hm tM hR h0 pJ (by rw[hl];have:=h.1;simpa [ao.l] using this) NG (by rw[hl];exact w6 c w vy hm hR hy)
        case emp=>
          simp only[CU,db,decide_eq_true_eq,nz,<-ao.iy]at h
          refine⟨_,_,h.2,λk hk=>by simp [cb]at hk,λc w vx vy hm tM hR hx hy=> ?_⟩
          obtain⟨a,hx,AI⟩:=hx
          rw[hx]
          have hl:((ao.gen []).app ys).l=ys.l:=by rw[ao.j6];rfl
          exact append_empty (ks:=[]) (ys:=(ao.gen []).app ys) hk.1 pK nL hi hu hs hb w5 hm tM hR h0 pJ (by rw[hl];have:=h.1;simpa [ao.l] using this) AI (by rw[hl];exact w6 c w vy hm hR hy)
        case all r=>
          split at h
          . rename_i j0 s es hr
            simp only[aE,CU,db,decide_eq_true_eq,nz,<-ao.iy]at h
            obtain⟨⟨⟨g1,g2⟩,g3⟩,g5,g6⟩:=h
            have g1:=bE g1
            have g2:=bE g2
            subst g1;subst g2
            refine⟨_,_,g6,λk hk=> ?_,λc w vx vy hm tM hR hx hy=> ?_⟩
            . have:=oz.1 hk
              simp at this
              rw[this];exact lE g3
            . exact Zoo hk.1 pK nL hi hu hs hb w5 hm tM hR h0 pJ g5 hr hx (w6 c w vy hm hR hy)
          . exact h.elim
        case own r o n=>
          split at h
          . rename_i j0 s es hr
            simp only[aE,CU,db,decide_eq_true_eq,nz,<-ao.iy]at h
            obtain⟨⟨⟨g1,g2⟩,g3,g4⟩,g5,g6⟩:=h
            have g1:=bE g1
            have g2:=bE g2
            have g4:=bE g4
            subst g1;subst g2;subst g4
            refine⟨_,_,g6,λk hk=> ?_,λc w vx vy hm tM hR hx hy=> ?_⟩
            . have:=oz.1 hk
              simp at this
              rw[this];exact lE g3
            . exact Zql hk.1 pK nL hi hu hs hb w5 hm tM hR h0 pJ g5 hr hx (w6 c w vy hm hR hy)
          . exact h.elim
      . exact h.elim
    . exact h.elim
  . exact h.elim
theorem Z3i{c:Ctx}{w:World}{d:D}{v:Value}(gr:∀f cs,d≠.gn f cs)(h:cv c w d v):cv {c with base:=0} w d v:=by
 cases d with
 |sl sz es fr=>
  obtain⟨a,cap,hv,hc,ij⟩:=h
  refine⟨a,cap,hv,hc,?_⟩
  rcases ij with ij|⟨b,off,arr,ty,fz,ha,hI,hf,hh,hE⟩
  ·exact .inl ij
  ·exact .inr ⟨b,off,arr,ty,fz,ha,hI,λ_=>Nat.zero_le _,hh,hE⟩
 |gn f cs=>exact absurd rfl (gr f cs)
 |_=>exact h
theorem Zz{c:Ctx}{w:World}{d:D}{v:Value}(h:cv c w d v):cv {c with base:=0} w d v:=by
 by_cases e:∃g cs,d=.gn g cs
 ·obtain⟨g,cs,rfl⟩:=e
  obtain⟨us,hv,hu⟩:=h
  exact⟨us,hv,Y9 (c:=c) (w:=w) (c':={c with base:=0}) (w':=w) (S:=λ_=>True) (λd v q1 _ q2=>Z3i q1 q2) (λ_ hb=>⟨hb,rfl⟩) (λ_ _=>trivial) hu⟩
 ·exact Z3i (λf cs e'=>e ⟨f,cs,e'⟩) h
theorem Z5r{c:Ctx}{w:World}:∀{ds:List D} {vs:List Value},jr c w ds vs->jr {c with base:=0} w ds vs
 |[],[],_=>trivial
 |_::_,_::_,h=>⟨Zz h.1,Z5r h.2⟩
 |[],_::_,h=>h.elim
 |_::_,[],h=>h.elim
theorem Z9b{c:Ctx}{w:World}{d:D}{v:Value}(h:VRep c w d v):VRep {c with base:=0} w d v:=by
 cases d with
 |agg cs=>obtain⟨vs,hv,hr⟩:=h;exact⟨vs,hv,Z5r hr⟩
 |_=>exact VRep.EW (Zz (VRep.toC (λcs e=>by cases e) h))
theorem ZA{c:Ctx}{w:World}:∀{ds:List D} {vs:List Value},kh c w ds vs->kh {c with base:=0} w ds vs
 |[],[],_=>trivial
 |_::_,_::_,h=>⟨Z9b h.1,ZA h.2⟩
 |[],_::_,h=>h.elim
 |_::_,[],h=>h.elim
theorem Qzf{c:Ctx}{w:World}:∀{ds:List D} {arr:Array Value} {off:Nat},kO c w ds arr off->kO {c with base:=0} w ds arr off
 |[],_,_,_=>trivial
 |_::_,_,_,⟨⟨v,hv,h1⟩,h2⟩=>⟨⟨v,hv,Zz h1⟩,Qzf h2⟩
theorem Zg9{c:Ctx}{w:World}(h:Mem c w):Mem {c with base:=0} w:=by
 refine⟨λr row hr=>?_,h.inj,h.fu,h.top,h.kR⟩
 rcases h.row r row hr with h0|⟨h0,arr,ha,hs,hx⟩
 ·exact .inl h0
 ·refine .inr ⟨h0,arr,ha,hs,?_⟩
  split
  ·rename_i hb
   rw[if_pos hb]at hx
   obtain⟨e,k1,k2,k3,k4⟩:=hx
   exact⟨e,k1,k2,k3,Qzf k4⟩
  ·rename_i hb
   rw[if_neg hb]at hx
   exact hx
theorem Qze{f:Nat->Nat}:∀{ids:List Nat} {rows:List Row} {R:Rows},ids.Nodup->ids.length<=rows.length->(∀r∈ids,r<R.length)->
 (FV f ids rows R).length=R.length/\(∀(i r:Nat),ids[i]?=some r->∃row,rows[i]?=some row/\(FV f ids rows R).getD r none=some (row.ji f false))/\∀r,r∉ids->(FV f ids rows R).getD r none=R.getD r none
 |[],rows,R,_,_,_=>by
  have:FV f [] rows R=R:=by cases rows<;>rfl
  rw[this]
  exact⟨rfl,λi r h=>by simp at h,λ_ _=>rfl⟩
 |r::ids,[],R,_,hl,_=>by simp at hl
 |r ::ids,row::rows,R,lr,hl,cj=>by
  obtain⟨IV,JS⟩:=List.nodup_cons.1 lr
  obtain⟨g1,g2,g3⟩:=Qze (f:=f) (ids:=ids) (rows:=rows) (R:=R.set r (some (row.ji f false))) JS (by simpa using hl) (λq hq=>by simpa using cj q (by simp[hq]))
  have hr:=cj r (by simp)
  have ZB:(R.set r (some (row.ji f false))).getD r none=some (row.ji f false):=by simp[aK,hr]
  have gr:∀q,q≠r->(R.set r (some (row.ji f false))).getD q none=R.getD q none:=λq hq=>by simp[aK,List.getElem?_set_ne (Ne.symm hq)]
  simp only[FV]
  refine⟨by simpa using g1,λi q hq=>?_,λq hq=>?_⟩
  ·cases i with
   |zero=>
    simp at hq;subst hq
    exact⟨row,rfl,by rw[g3 _ IV];exact ZB⟩
   |succ i=>simpa using g2 i q (by simpa using hq)
  ·have h1:q≠r:=λe=>hq (by simp[e])
   rw[g3 q (λe=>hq (by simp[e])),gr q h1]
def Ctx.ee(c:Ctx)(c':Ctx)(kl n0:Nat)(R2:Rows):Ctx:=
 { ρ:=λr=>if n0<=r/\r<R2.length then c'.ρ (kl+(r-n0)) else c.ρ r,
   R:=λr=>R2.getD r none,
   V:=λr=>if n0<=r/\r<R2.length then c'.V (kl+(r-n0)) else c.V r,
   I:=c'.I,base:=c.base,top:=c'.top,X:=c.X}
theorem MC{i k n:Nat}:cb i (bK k n)=true↔k<=i/\i<k+n:=by
 rw[oz,List.mem_range'_1]
theorem Z8m{c c':Ctx}{w w':World}{R:Rows}{ids:List Nat}{k:Nat}{ea aj:List Row}(hm:Mem c w)(hR:∀r,c.R r=R.getD r none)
 (lr:ids.Nodup) (cw:BA R (λr=>pos r ids 0) ids=some ea) (hle:(ids.take k).length<=aj.length)
 (hx:jH (bK k (ea.length-k)) {c.pass w ids ea false with base:=0} w c' w') (j4:∀i,c'.R i=aj[i]?)
 {R2:Rows} (uR:R2=FV (bk (ids.take k) R.length) (ids.take k) aj (se (ids.drop k) R 0)++P9 (bk (ids.take k) R.length) (aj.drop (ids.take k).length)):
 Ey (λ_=>True) (bk (ids.take k) R.length) false c' (c.ee c' (ids.take k).length R.length R2)/\
 jH (ids.drop k) c w (c.ee c' (ids.take k).length R.length R2) w':=by
 obtain⟨gm,Ba⟩:=FW cw
 generalize hf:bk (ids.take k) R.length=f at*
 generalize ZC:(ids.take k).length=kl at*
 have oc:∀r row,R.getD r none=some row->c.R r=some row:=λr row e=>by rw[hR];exact e
 have cj:∀r∈ids,r<R.length:=λr hr=>by
  obtain⟨row,h1,_⟩:=Ba _ r (BB hr)
  by_cases hl:r<R.length
  ·exact hl
  ·rw[aK,aM (by omega)]at h1;cases h1
 have htd:ids.take k++ids.drop k=ids:=List.take_append_drop k ids
 have ZD:(ids.take k).Nodup:=by rw[<-htd]at lr;exact(List.nodup_append.1 lr).1
 have QA:∀r,r∈ids.take k->r∈ids.drop k->False:=λr h1 h2=>by
  rw[<-htd]at lr
  exact(List.nodup_append.1 lr).2.2 r h1 r h2 rfl
 have JaC:kl=min k ids.length:=by rw[<-ZC];simp
 have CV:∀i,i<kl->(ids.take k)[i]?=ids[i]? :=λi hi=>by rw[aU,if_pos (by omega)]
 have s9:∀i r,ids[i]?=some r->kl<=i->r∈ids.drop k:=λi r hi pS=>by
  have mY:=(List.getElem?_eq_some_iff.1 hi).1
  have:(ids.drop k)[i-k]?=some r:=by rw[fK,show k+(i-k)=i by omega];exact hi
  exact fX this
 obtain⟨k1,k2,k3⟩:=Qze (f:=f) (ids:=ids.take k) (rows:=aj) (R:=se (ids.drop k) R 0) ZD (by rw[ZC];exact hle) (λr hr=>by rw[JN];exact cj r (cX hr))
 rw[JN]at k1
 have wy:R2.length=R.length+(aj.length-kl):=by rw[uR];simp[k1,P9]
 have QB:∀r,r<R.length->R2.getD r none=(FV f (ids.take k) aj (se (ids.drop k) R 0)).getD r none:=λr hr=>by
  rw[uR,aK,aK,aZ (by omega)]
 have ZE:∀i,kl<=i->i<aj.length->R2.getD (R.length+(i-kl)) none=aj[i]?.map λrow=>row.ji f false:=λi h1 h2=>by
  have:∀(l:List Row) (j:Nat),(P9 f l)[j]?=l[j]?.map λrow=>some (row.ji f false):=λl j=>by simp[P9]
  rw[uR,aK,bB (by omega),this,k1,show R.length+(i-kl)-R.length=i-kl by omega,fK,show kl+(i-kl)=i by omega]
  rw[cG h2];rfl
 have jC:∀i r ak,i<kl->ids[i]?=some r->c'.R i=some ak->∃row,c.R r=some row/\ak.box=row.box/\ak.ty=row.ty/\ak.sz=row.sz/\ak.es.l.length=row.es.l.length/\c'.ρ i=c.ρ r/\(c'.V i↔c.V r)/\r<R.length/\R2.getD r none=some (ak.ji f false)/\f i=r/\
  (¬c.V r->∀arr,w.heap[c.ρ r]?=some (.cells arr row.ty (0,0))->∃iP,w'.heap[c.ρ r]?=some (.cells iP row.ty (0,0))/\iP.size=arr.size):=by
  intro i r ak oi hi jq
  obtain⟨row,h1,h2⟩:=Ba i r hi
  have kH:=fX hi
  have h3:=oc r row h1
  have CW:(({c.pass w ids ea false with base:=0}:Ctx).kill (bK k (ea.length-k))).R i=some ((row.ji (λr=>pos r ids 0) false).kill (bK k (ea.length-k))):=by
   simp only[Ctx.kill,Ctx.pass]
   rw[if_neg (λe=>by have:=MC.1 e;omega),h2];rfl
  obtain⟨oE,g1,g2,g3,g4,g5,g6,gV,g7⟩:=hx.cf.R i _ CW
  rw[jq]at g1;cases g1
  obtain⟨s1,s2,s3,s4⟩:=JT (λr=>pos r ids 0) false row
  obtain⟨t1,t2,t3,t4⟩:=wC (bK k (ea.length-k)) (row.ji (λr=>pos r ids 0) false)
  have iJ:=(CV i oi).trans hi
  obtain⟨lh,q1,q2⟩:=k2 i r iJ
  rw[j4,q1]at jq;cases jq
  refine⟨row,h3,g2.trans (t1.trans s1),g3.trans (t2.trans s2),g4.trans (t3.trans s3),g5.trans (t4.trans s4),by simpa[Ctx.kill,Ctx.pass,hi]using g6,by simpa[Ctx.kill,Ctx.pass,hi]using gV,cj r kH,by rw[QB r (cj r kH)];exact q2,by rw[<-hf];simp[bk,iJ],λnv arr ha=>?_⟩
  have:=g7 (by simpa[Ctx.kill,Ctx.pass,hi]using nv) arr (by simpa[Ctx.kill,Ctx.pass,hi,s2,t2]using ha)
  simpa[Ctx.kill,Ctx.pass,hi,s2,t2]using this
 have GW:∀i ak,c'.R i=some ak->¬c'.V i->(∃j s row,ids[j]?=some s/\c.R s=some row/\¬c.V s/\c'.ρ i=c.ρ s/\(i<kl->j=i)/\(kl<=i->s∈ids.drop k))\/w.heap.size<=c'.ρ i:=by
  intro i ak h1 nv
  by_cases oi:i<kl
  ·have iJ:ids[i]?=some ids[i]:=cG (by omega)
   obtain⟨row,g1,g2,g3,g4,g5,g6,g7,_⟩:=jC i _ ak oi iJ h1
   exact .inl ⟨i,_,row,iJ,g1,λe=>nv (g7.2 e),g6,λ_=>rfl,λh=>by omega⟩
  ·rcases hx.ov i ak h1 nv with⟨⟨x,nQ⟩,v,e⟩|⟨s,x,hs,nQ,v,e⟩|e
   ·have Jl:ea[i]?=some x:=nQ
    have HG:=(List.getElem?_eq_some_iff.1 Jl).1
    have iJ:ids[i]?=some ids[i]:=cG (by omega)
    obtain⟨row,g1,g2⟩:=Ba i _ iJ
    exact .inl ⟨i,_,row,iJ,oc _ _ g1,by simpa[Ctx.pass,iJ]using v,by simpa[Ctx.pass,iJ]using e,λh=>by omega,λ_=>s9 i _ iJ (by omega)⟩
   ·have Jl:ea[s]?=some x:=nQ
    have HG:=(List.getElem?_eq_some_iff.1 Jl).1
    have iJ:ids[s]?=some ids[s]:=cG (by omega)
    obtain⟨row,g1,g2⟩:=Ba s _ iJ
    have hsk:=(MC.1 hs).1
    exact .inl ⟨s,_,row,iJ,oc _ _ g1,by simpa[Ctx.pass,iJ]using v,by simpa[Ctx.pass,iJ]using e,λh=>by omega,λ_=>s9 s _ iJ (by omega)⟩
   ·exact .inr e
 have new:∀i ak,kl<=i->c'.R i=some ak->i<aj.length/\R2.getD (R.length+(i-kl)) none=some (ak.ji f false)/\f i=R.length+(i-kl):=by
  intro i ak hi jq
  have h1:aj[i]?=some ak:=by rw[<-j4];exact jq
  have h2:=(List.getElem?_eq_some_iff.1 h1).1
  refine⟨h2,by rw[ZE i hi h2,h1];rfl,?_⟩
  rw[<-hf]
  simp only[bk]
  rw[aM (by omega),ZC]
 have CX:Ey (λ_=>True) f false c' (c.ee c' kl R.length R2):=by
  refine⟨λi ak _ jq=>?_,(λh=>by cases h),aO _⟩
  obtain⟨s1,s2,s3,s4⟩:=JT f false ak
  by_cases hi:i<kl
  ·have iJ:ids[i]?=some ids[i]:=cG (by omega)
   obtain⟨row,g1,g2,g3,g4,g5,g6,g7,g8,g9,g10,_⟩:=jC i _ ak hi iJ jq
   rw[g10]
   exact⟨_,g9,s1,s2,s3,s4,by simp only[Ctx.ee];rw[if_neg (by omega),g6],by simp only[Ctx.ee];rw[if_neg (by omega)];exact g7.symm⟩
  ·obtain⟨h1,h2,h3⟩:=new i ak (by omega) jq
   rw[h3]
   have hc:R.length<=R.length+(i-kl)/\R.length+(i-kl)<R2.length:=by omega
   have he:kl+(R.length+(i-kl)-R.length)=i:=by omega
   exact⟨_,h2,s1,s2,s3,s4,by simp only[Ctx.ee];rw[if_pos hc,he],by simp only[Ctx.ee];rw[if_pos hc,he]⟩
 have Ci:Fr (λb=>∃r x,c.R r=some x/\¬c.V r/\r∈ids/\c.ρ r=b) w w':=hx.fr.mono λb _ ⟨i,x,h1,h2,h3⟩=>by
  have pw:ea[i]?=some x:=h1
  have hi:i<ids.length:=by have:=(List.getElem?_eq_some_iff.1 pw).1;omega
  have iJ:ids[i]?=some ids[i]:=cG hi
  obtain⟨row,g1,g2⟩:=Ba i _ iJ
  exact⟨_,row,oc _ row g1,by simpa[Ctx.pass,iJ]using h2,fX iJ,by simpa[Ctx.pass,iJ]using h3⟩
 have rest:∀r,r∉ids->r<R.length->R2.getD r none=(R.getD r none).map (Row.kill (ids.drop k)):=λr h1 h2=>by
  rw[QB r h2,k3 r (λe=>h1 (cX e)),P7,aX,if_neg (λe=>h1 (cY (oz.1 e)))]
 have gone:∀r,r∈ids.drop k->R2.getD r none=none:=λr h=>by
  rw[QB r (cj r (cY h)),k3 r (λe=>QA r e h),P7,aX,if_pos (oz.2 h)]
 have inv:∀r x,(c.ee c' kl R.length R2).R r=some x->(∃i ak,c'.R i=some ak/\x=ak.ji f false/\(c.ee c' kl R.length R2).ρ r=c'.ρ i/\((c.ee c' kl R.length R2).V r↔c'.V i)/\(i<kl/\ids[i]?=some r/\(c.ee c' kl R.length R2).ρ r=c.ρ r/\((c.ee c' kl R.length R2).V r↔c.V r)\/R.length<=r/\kl<=i/\r=R.length+(i-kl)))\/
  (∃row,c.R r=some row/\x=row.kill (ids.drop k)/\r∉ids/\(c.ee c' kl R.length R2).ρ r=c.ρ r/\((c.ee c' kl R.length R2).V r↔c.V r)):=by
  intro r x jG
  have jG:R2.getD r none=some x:=jG
  by_cases kH:r∈ids
  ·by_cases hg:r∈ids.drop k
   ·rw[gone r hg]at jG;cases jG
   ·left
    have hp:=BB kH
    have BC:pos r ids 0<kl:=by
     by_cases h:pos r ids 0<kl
     ·exact h
     ·exact(hg (s9 _ r hp (by omega))).elim
    obtain⟨lh,q1,q2⟩:=k2 _ r ((CV _ BC).trans hp)
    have rH:c'.R (pos r ids 0)=some lh:=by rw[j4];exact q1
    obtain⟨row,g1,g2,g3,g4,g5,g6,g7,g8,g9,g10,_⟩:=jC _ r lh BC hp rH
    rw[g9]at jG
    cases jG
    have e1:(c.ee c' kl R.length R2).ρ r=c.ρ r:=by simp only[Ctx.ee];rw[if_neg (by omega)]
    have e2:(c.ee c' kl R.length R2).V r↔c.V r:=by simp only[Ctx.ee];rw[if_neg (by omega)]
    exact⟨_,lh,rH,rfl,by rw[e1,g6],by rw[e2,g7],.inl ⟨BC,hp,e1,e2⟩⟩
  ·by_cases hc:R.length<=r
   ·left
    have JL:r<R2.length:=by
     by_cases h:r<R2.length
     ·exact h
     ·rw[aK,aM (by omega)]at jG;cases jG
    have hi:kl+(r-R.length)<aj.length:=by omega
    have rH:c'.R (kl+(r-R.length))=some aj[kl+(r-R.length)]:=by rw[j4];exact cG hi
    obtain⟨h1,h2,h3⟩:=new _ _ (by omega) rH
    rw[show R.length+(kl+(r-R.length)-kl)=r by omega]at h2
    rw[h2]at jG
    cases jG
    exact⟨_,_,rH,rfl,by simp only[Ctx.ee];rw[if_pos ⟨hc,JL⟩],by simp only[Ctx.ee];rw[if_pos ⟨hc,JL⟩],.inr ⟨hc,by omega,by omega⟩⟩
   ·right
    rw[rest r kH (by omega)]at jG
    simp only[fS]at jG
    obtain⟨row,h1,h2⟩:=jG
    exact⟨row,oc r row h1,h2.symm,kH,by simp only[Ctx.ee];rw[if_neg (by omega)],by simp only[Ctx.ee];rw[if_neg (by omega)]⟩
 have apart:∀r row i ak,c.R r=some row->r∉ids->¬c.V r->c'.R i=some ak->¬c'.V i->c'.ρ i≠c.ρ r:=λr row i ak h1 h2 h3 h4 h5 e=>by
  rcases GW i ak h4 h5 with⟨j,s,jA,q1,q2,q3,q4,_⟩|q
  ·have:=hm.inj s r jA row q2 h1 q3 h3 (by rw[<-q4,e])
   subst this
   exact h2 (fX q1)
  ·have:=hm.lt h1 h3;omega
 have rb:jn (c.kill (ids.drop k)) w (c.ee c' kl R.length R2) w':=by
  refine⟨rfl,hx.cf.top,λb iK=>?_,λr x hr=>?_⟩
  ·have h1:(({c.pass w ids ea false with base:=0}:Ctx).kill (bK k (ea.length-k))).I b:=.inl iK
   exact⟨(hx.cf.I b h1).1,(hx.cf.I b h1).2⟩
  ·obtain⟨UQ,row,cg,rfl⟩:=ox hr
   have UQ:r∉ids.drop k:=λe=>by rw[oz.2 e]at UQ;cases UQ
   obtain⟨u1,u2,u3,u4⟩:=wC (ids.drop k) row
   by_cases kH:r∈ids
   ·have hp:=BB kH
    have BC:pos r ids 0<kl:=by
     by_cases h:pos r ids 0<kl
     ·exact h
     ·exact(UQ (s9 _ r hp (by omega))).elim
    obtain⟨lh,q1,q2⟩:=k2 _ r ((CV _ BC).trans hp)
    have rH:c'.R (pos r ids 0)=some lh:=by rw[j4];exact q1
    obtain⟨j7,g1,g2,g3,g4,g5,g6,g7,g8,g9,g10,g11⟩:=jC _ r lh BC hp rH
    rw[cg]at g1;cases g1
    obtain⟨s1,s2,s3,s4⟩:=JT f false lh
    refine⟨_,g9,s1.trans (g2.trans u1.symm),s2.trans (g3.trans u2.symm),s3.trans (g4.trans u3.symm),s4.trans (g5.trans u4.symm),by simp only[Ctx.ee];rw[if_neg (by omega)];rfl,by simp only[Ctx.ee];rw[if_neg (by omega)];rfl,λnv arr ha=>?_⟩
    rw[u2]at ha⊢
    exact g11 nv arr ha
   ·have rI:r<R.length:=by
     by_cases h:r<R.length
     ·exact h
     ·rw[hR,aK,aM (by omega)]at cg;cases cg
    refine⟨row.kill (ids.drop k),?_,rfl,rfl,rfl,rfl,by simp only[Ctx.ee];rw[if_neg (by omega)];rfl,by simp only[Ctx.ee];rw[if_neg (by omega)];rfl,λnv arr ha=>⟨arr,?_,rfl⟩⟩
    ·show R2.getD r none=_
     rw[rest r kH rI,<-hR,cg];rfl
    ·have nv:¬c.V r:=nv
     show w'.heap[c.ρ r]?=_
     rw[Ci.heap _ (hm.lt cg nv) fun⟨s,x,h1,h2,h3,h4⟩=>kH (by rw[<-hm.inj s r x row h1 cg h2 nv h4];exact h3)]
     exact ha
 refine⟨CX,⟨λr x jG=>?_,λr s x y hr hs v1 v2 he=>?_,λb iK=>⟨(hx.mem.fu b iK).1,λr x hr v=>?_⟩,hx.mem.top,hx.mem.kR⟩,rb,Ci.mono λb _ ⟨r,x,h1,h2,_,h4⟩=>⟨r,x,h1,h2,h4⟩,λb iK=>?_,λr x hr v=>?_⟩
 ·rcases inv r x jG with⟨i,ak,h1,rfl,h3,h4,_⟩|⟨row,h1,rfl,h2,h3,h4⟩
  ·exact ZF CX (flat:=False) (.inl λb hb=>hb) h3 h4 (λ_ _ _ _ _=>trivial) (λe=>e.elim) (hx.mem.row i ak h1)
  ·have hk:=Zma (ks:=ids.drop k) (hm.row r row h1)
   exact ue rb h3 h4 (λnv=>Ci.heap _ (hm.lt h1 nv) fun⟨s,x',g1,g2,g3,g4⟩=>h2 (by rw[<-hm.inj s r x' row g1 h1 g2 nv g4];exact g3)) hk
 ·rcases inv r x hr with⟨i,x',h1,_,h3,h4,h5⟩|⟨row,h1,_,h2,h3,h4⟩<;>rcases inv s y hs with⟨j,y',g1,_,g3,g4,g5⟩|⟨jA,g1,_,g2,g3,g4⟩
  ·have:i=j:=hx.mem.inj i j x' y' h1 g1 (λe=>v1 (h4.2 e)) (λe=>v2 (g4.2 e)) (by rw[<-h3,<-g3];exact he)
   subst this
   rcases h5 with⟨q0,q1,_⟩|⟨_,q1,q2⟩<;>rcases g5 with⟨p0,p1,_⟩|⟨_,p1,p2⟩
   ·rw[q1]at p1;exact Option.some.inj p1
   ·omega
   ·omega
   ·omega
  ·exact(apart s jA i x' g1 g2 (λe=>v2 (g4.2 e)) h1 (λe=>v1 (h4.2 e)) (by rw[<-h3,<-g3];exact he)).elim
  ·exact(apart r row j y' h1 h2 (λe=>v1 (h4.2 e)) g1 (λe=>v2 (g4.2 e)) (by rw[<-h3,<-g3];exact he.symm)).elim
  ·exact hm.inj r s row jA h1 g1 (λe=>v1 (h4.2 e)) (λe=>v2 (g4.2 e)) (by rw[<-h3,<-g3];exact he)
 ·rcases inv r x hr with⟨i,x',h1,_,h3,h4,h5⟩|⟨row,h1,_,h2,h3,h4⟩
  ·rw[h3];exact(hx.mem.fu b iK).2 i x' h1 (λe=>v (h4.2 e))
  ·have nv:¬c.V r:=λe=>v (h4.2 e)
   rw[h3]
   rcases hx.fu b iK with q|⟨s,z,q1,q2,q3,q4⟩|q
   ·rcases q with q|⟨q,_⟩
    ·exact(hm.fu b q).2 r row h1 nv
    ·cases q
   ·intro e
    have hz:ea[s]?=some z:=q2
    have HG:=(List.getElem?_eq_some_iff.1 hz).1
    have iJ:ids[s]?=some ids[s]:=cG (by omega)
    obtain⟨jA,g1,g2⟩:=Ba s _ iJ
    have:=hm.inj _ r jA row (oc _ _ g1) h1 (by simpa[Ctx.pass,iJ]using q3) nv (by rw[e];simpa[Ctx.pass,iJ]using q4)
    exact h2 (by rw[<-this];exact fX iJ)
   ·have:=hm.lt h1 nv;omega
 ·rcases hx.fu b iK with q|⟨s,z,q1,q2,q3,q4⟩|q
  ·rcases q with q|⟨q,_⟩
   ·exact .inl q
   ·cases q
  ·have hz:ea[s]?=some z:=q2
   have HG:=(List.getElem?_eq_some_iff.1 hz).1
   have iJ:ids[s]?=some ids[s]:=cG (by omega)
   obtain⟨jA,g1,g2⟩:=Ba s _ iJ
   have hsk:=(MC.1 q1).1
   exact .inr (.inl ⟨_,jA,oz.2 (s9 s _ iJ (by omega)),oc _ _ g1,by simpa[Ctx.pass,iJ]using q3,by simpa[Ctx.pass,iJ]using q4⟩)
  ·exact .inr (.inr q)
 ·rcases inv r x hr with⟨i,x',h1,_,h3,h4,h5⟩|⟨row,h1,_,h2,h3,h4⟩
  ·rcases h5 with⟨q0,q1,q2,q3⟩|⟨q0,q1,q2⟩
   ·obtain⟨row,g1,_⟩:=jC i r x' q0 q1 h1
    exact .inl ⟨⟨row,g1⟩,λe=>v (q3.2 e),q2⟩
   ·rcases GW i x' h1 (λe=>v (h4.2 e))with⟨j,s,jA,p1,p2,p3,p4,_,p5⟩|p
    ·exact .inr (.inl ⟨s,jA,oz.2 (p5 q1),p2,p3,by rw[h3];exact p4⟩)
    ·exact .inr (.inr (by rw[h3];exact p))
  ·exact .inl ⟨⟨row,h1⟩,λe=>v (h4.2 e),h3⟩
def HH(P:Program)(f:FuncId)(args:List Operand)(ev:Operand->D)(R:Rows)(ks:List Nat)(val:D)(R':Rows):Prop:=
 ∀ (c:Ctx) (w:World) (ρ:Operand->Value),Mem c w->c.base<=w.heap.size->(∀r,c.R r=R.getD r none)->(∀y∈args,Rep c w (ev y) (ρ y))->
  ∀K':Value->World->Prop,(∀v w' c',jH ks c w c' w'->(∀r,c'.R r=R'.getD r none)->Rep c' w' val v->K' v w')->GN P c.I f (args.map ρ) w λe w'=>∃v,e=.returned v/\K' v w'
theorem WO{P:Program}{G:List bc}{M:Nat}(hG:jZ P G){f:FuncId}{k:Nat}{args:List Operand}{ev:Operand->D}{R:Rows}{K:List Nat->D->Rows->Prop}
 (lY:pr G f=some k) (h:ID G M f k (args.map ev) R K):∃ks val R' x,K ks val R'/\oZ G f=some x/\(x.refs≠[])/\(∀j,cb j ks=true->M<=j)/\HH P f args ev R ks val R':=by
 unfold ID at h
 split at h
 ·rename_i x hx
  have wD:x.gone=some k:=by simpa[pr,hx]using lY
  obtain⟨dz,hf⟩:=Gx hG hx
  split at h
  ·rename_i az ea has iU
   simp only[db,aE]at h
   obtain⟨⟨⟨⟨hv,nB⟩,h1,h2⟩,h3,h4⟩,h⟩:=h
   generalize JU:mJ R x.refs (args.map ev)=ids at*
   have uS:=MD.1 h1
   have gm:=MD.1 h2
   have lr:=ME.1 h3
   have HI:lU x.refs (args.map ev)=[]:=by
    revert hv
    cases lU x.refs (args.map ev)<;>simp
   have hrefs:x.refs≠[]:=λe=>by rw[e]at nB;simp at nB
   have main:∀res aj,HJ R (ids.take k) (ids.drop k) res aj K->sR P x.f k az ea res aj->
    ∃ks val R' y,K ks val R'/\oZ G f=some y/\(y.refs≠[])/\(∀j,cb j ks=true->M<=j)/\HH P f args ev R ks val R':=by
    intro res aj hK hA
    simp only[HJ,db,D.cq,nz]at hK
    obtain⟨hle,hK⟩:=hK
    have hle:=lE hle
    refine⟨_,_,_,x,hK,hx,hrefs,λj hj=>lE (List.all_eq_true.1 h4 j (oz.1 hj)),λc w ρ hm hb hR ey K' ry=>?_⟩
    have oc:∀r row,r∈ids->R.getD r none=some row->c.R r=some row:=λr row _ e=>by rw[hR];exact e
    have pq:mO c R:=λr row ak g1 g2=>by rw[hR,g2]at g1;exact(Option.some.inj g1).symm
    have hn:=UR (len:=false) (w:=w) oc iU
    have gg:=MF (len:=false) (ρ:=ρ) hm pq hn has (λe=>(e HI).elim) (λr hr=>by rw[HI]at hr;cases hr) uS ey
    have mz:=hA _ w _ (Zg9 (ZG (len:=false) hm oc lr gm iU)) rfl (λr=>rfl) (ZA gg)
    rw[hf]at mz
    refine mz.mono (λb hb=>.inl hb) (λe w' ta=>?_)
    obtain⟨v,c',he,nL,j4,kW⟩:=ta
    have:=Z8m (k:=k) hm hR lr iU hle nL j4 rfl
    exact⟨v,he,ry v w' _ this.2 (λr=>rfl) (ZH this.1 (flat:=False) (.inl λb hb=>hb) (λ_=>trivial) (λe=>e.elim) kW)⟩
   split at h
   ·rename_i α v res aj hm
    exact main _ _ (h v rfl) (dz.QC k wD _ _ _ _ _ _ hm)
   ·rename_i p α v res aj hm
    exact main _ _ (h.2 v rfl) (dz.HK k wD _ _ _ _ _ _ _ hm h.1)
   ·exact h.elim
  ·exact h.elim
 ·exact h.elim
theorem Znj{P:Program}{G:List bc}{M:Nat}(hG:jZ P G){f:FuncId}(hy:f<YB){dst:Option Tmp}{k:Nat}{args:Array Operand}{dd:Array TypeId}{type:TypeId}{pos':String}{after:Array Edge}{guard:Option (Nat×Bool)}{ev:Operand->D}{R:Rows}{K:List Nat->D->Rows->Prop}
 (lY:pr G f=some k) (h:ID G M f k (args.toList.map ev) R K):∃ks val R' x,K ks val R'/\oZ G f=some x/\(x.refs≠[])/\(∀j,cb j ks=true->M<=j)/\BX P ⟨dst,.call ⟨.value (.func f),args,dd⟩,type,pos',after,guard⟩ ev R ks val R':=by
 obtain⟨ks,val,R',x,h1,h2,h3,h4,h5⟩:=WO hG lY h
 obtain⟨dz,hf⟩:=Gx hG h2
 refine⟨ks,val,R',x,h1,h2,h3,h4,λc w a hm hb hR ey K' Q ry=>?_⟩
 subst hf
 exact ZI dz rfl hy ((h5 c w a.eval hm hb hR (λy hy=>ey y (by simp[Op.operands,Call.operands];exact .inr (by simpa using hy))) (λv w'=>K' (a.put dst v) w') λv w' c'=>ry v w' c').1 hy)
def Ctx.only(c:Ctx)(ks:List Nat):Ctx:={c with R:=λr=>if cb r ks=true then(match c.R r with|some row=>if row.box=true then none else some row|none=>none)else none}
theorem MG{c:Ctx}{ks:List Nat}{r:Nat}{x:Row}(h:(c.only ks).R r=some x):r∈ks/\c.R r=some x/\x.box=false:=by
 simp only[Ctx.only]at h
 split at h
 ·rename_i hm
  split at h
  ·rename_i row hr
   split at h
   ·cases h
   ·rename_i hb
    cases h
    exact⟨oz.1 hm,hr,by simpa using hb⟩
  ·cases h
 ·cases h
theorem qv{c:Ctx}{ks:List Nat}{r:Nat}{x:Row}(hm:r∈ks)(hr:c.R r=some x)(hb:x.box=false):(c.only ks).R r=some x:=by
 simp[Ctx.only,oz.2 hm,hr,hb]
theorem vQ{c:Ctx}{w:World}(hm:Mem c w)(ks:List Nat):Mem (c.only ks) w:=by
 refine⟨λr x hr=>?_,λr s x y hr hs=>?_,λb hb=>⟨(hm.fu b hb).1,λr x hr v=>?_⟩,hm.top,hm.kR⟩
 ·obtain⟨_,h1,h2⟩:=MG hr
  rcases hm.row r x h1 with h|⟨h0,arr,ha,hs,hx⟩
  ·exact .inl h
  ·refine .inr ⟨h0,arr,ha,hs,?_⟩
   rw[if_neg (by rw[h2];simp)]at hx⊢
   exact hx
 ·exact hm.inj r s x y (MG hr).2.1 (MG hs).2.1
 ·exact(hm.fu b hb).2 r x (MG hr).2.1 v
theorem Zhy{c:Ctx}{w:World}{R:Rows}{ks:List Nat}{d d':D}{v:Value}(h:FX R d=some d')(hl:∀r∈nU d,r∈ks)(hr:cv c w d v):cv (c.only ks) w d v:=by
 cases d<;>simp only[FX]at h<;>try(cases h;done)
 case all r=>
  obtain⟨row,g1,g2,g3⟩:=hr
  exact⟨row,qv (hl r (by simp[nU])) g1 g2,g2,g3⟩
 case own r o n=>
  obtain⟨row,g1,g2,g3,g4⟩:=hr
  exact⟨row,qv (hl r (by simp[nU])) g1 g2,g2,g3,g4⟩
 all_goals exact hr
theorem Zgs{c:Ctx}{w:World}{R:Rows}{ks:List Nat}:∀{ds oA:List D} {vs:List Value},JV R ds=some oA->(∀r∈re ds,r∈ks)->jr c w ds vs->jr (c.only ks) w ds vs
 |[],_,[],_,_,_=>trivial
 |d ::ds,oA,v::vs,h,hl,hr=>by
  simp only[JV]at h
  split at h
  ·rename_i x xs h1 h2
   exact⟨Zhy h1 (λr e=>hl r (by simp[re,e])) hr.1,Zgs h2 (λr e=>hl r (by simp[re,e])) hr.2⟩
  ·cases h
 |[],_,_::_,_,_,h=>h.elim
 |_::_,_,[],_,_,h=>h.elim
theorem qR{c:Ctx}{w:World}{R:Rows}{ks:List Nat}{d d':D}{v:Value}(h:conv R d=some d')(hl:∀r∈FY d,r∈ks)(hr:Rep c w d v):Rep (c.only ks) w d v:=by
 cases d with
 |agg cs=>
  simp only[conv,fS]at h
  obtain⟨xs,h1,_⟩:=h
  obtain⟨vs,hv,hx⟩:=hr
  exact⟨vs,hv,Zgs h1 hl hx⟩
 |du ds=>simp[conv,FX]at h
 |dead=>trivial
 |_=>
  simp only[conv]at h
  simp only[Rep,VRep]at hr⊢
  exact Zhy h hl hr
theorem Z9f{R:Rows}{f:Nat->Nat}{ev:Operand->D}:∀{xs:List Operand} {az:List D},te R f [] (xs.map ev)=some az->∀x∈xs,∃y,conv R (ev x)=some y
 |[],_,_,x,hx=>by simp at hx
 |y ::xs,az,h,x,hx=>by
  simp only[fT,te]at h
  split at h
  ·rename_i z zs h1 h2
   simp only[cS]at hx
   rcases hx with rfl|hx
   ·exact⟨_,h1⟩
   ·exact Z9f h2 x hx
  ·cases h
theorem Z9k{ev:Operand->D}{r:Nat}:∀{xs:List Operand} {x:Operand},x∈xs->r∈FY (ev x)->r∈lU [] (xs.map ev)
 |y::xs,x,hx,hr=>by
  simp only[fT,lU,bX]
  simp only[cS]at hx
  rcases hx with rfl|hx
  ·exact .inl hr
  ·exact .inr (Z9k hx hr)
theorem ZJ{r:Nat}:∀{l ids:List Nat},r∈lR ids l->r∈ids\/r∈l
 |[],ids,h=>.inl h
 |x ::l,ids,h=>by
  simp only[lR]at h
  split at h
  ·rcases ZJ h with h|h
   ·exact .inl h
   ·exact .inr (by simp[h])
  ·rcases ZJ h with h|h
   ·simp only[bX,List.mem_singleton]at h
    rcases h with h|h
    ·exact .inl h
    ·exact .inr (by simp[h])
   ·exact .inr (by simp[h])
theorem xv{c:Ctx}{w:World}{d:D}{v:Value}(h:Rep c w d v):Rep {c with base:=0} w d v:=by
 cases d with
 |du ds=>obtain⟨vs,hv,hx⟩:=h;exact⟨vs,hv,ZA hx⟩
 |dead=>trivial
 |_=>exact Rep.KQ (Z9b (Rep.toV (λds e=>by cases e) (λe=>by cases e) h))
theorem xR{P:Program}{G:List bc}{M:Nat}(hG:jZ P G){dst:Option Tmp}{f:FuncId}{args:Array Operand}{dd:Array TypeId}{type:TypeId}{pos':String}{after:Array Edge}{guard:Option (Nat×Bool)}{ev:Operand->D}{R:Rows}{K:List Nat->D->Rows->Prop}
 (lY:pr G f=none) (h:CY G M f (args.toList.map ev) R K):∃ks val R' x,K ks val R'/\oZ G f=some x/\(∀j,cb j ks=true->M<=j)/\BX P ⟨dst,.call ⟨.value (.func f),args,dd⟩,type,pos',after,guard⟩ ev R ks val R':=by
 unfold CY at h
 split at h
 ·rename_i x hx
  have wD:x.gone=none:=by simpa[pr,hx]using lY
  obtain⟨dz,hf⟩:=Gx hG hx
  split at h
  ·rename_i az ea has iU
   simp only[db,aE]at h
   obtain⟨⟨⟨nB,w7⟩,h3,uS,h4⟩,h⟩:=h
   have JaD:∀r,r∈lR [] (lU [] (args.toList.map ev))->r∈lU [] (args.toList.map ev):=λr hr=>by
    rcases ZJ hr with h|h
    ·cases h
    ·exact h
   generalize JU:lR [] (lU [] (args.toList.map ev))=ids at*
   have lr:=ME.1 h3
   have uS:=MD.1 uS
   have main :∀res aj,HJ R [] ids res aj K->kj P x.f az [] res aj->
    ∃ks val R' y,K ks val R'/\oZ G f=some y/\(∀j,cb j ks=true->M<=j)/\BX P ⟨dst,.call ⟨.value (.func f),args,dd⟩,type,pos',after,guard⟩ ev R ks val R':=by
    intro res aj hK hA
    simp only[HJ,db,D.cq,nz]at hK
    obtain⟨_,hK⟩:=hK
    refine⟨_,_,_,x,hK,hx,λj hj=>lE (List.all_eq_true.1 h4 j (oz.1 hj)),λc w a hm hb hR ey K' Q ry=>?_⟩
    have pq:mO (c.only ids) R:=λr row ak g1 g2=>by
     have:=(MG g1).2.1
     rw[hR,g2]at this;exact(Option.some.inj this).symm
    have hmo:=vQ hm ids
    have hn:=UR (c:=c.only ids) (R:=R) (ids:=[]) (ea:=[]) (len:=true) (w:=w) (λr row e=>by cases e) rfl
    have ZK:∀y∈args.toList,Rep (c.only ids) w (ev y) (a.eval y):=λy hy=>by
     obtain⟨z,hz⟩:=Z9f has y hy
     exact qR hz (λr hr=>uS r (Z9k hy hr)) (ey y (by simp[Op.operands,Call.operands];exact .inr (by simpa using hy)))
    rw[ZL (λr=>r) (λr=>pos r [] 0)]at has
    have gg:=MF (len:=true) (ρ:=a.eval) hmo pq hn has (λ_=>rfl) (λr _ e=>by cases e) (λr e=>by rw[ZM]at e;cases e) ZK
    have mz:=hA _ w _ (ZG (R:=R) (len:=true) hmo (λr row e=>by cases e) (by simp) (λr e=>by simp[CZ]at e) rfl) rfl (λr=>rfl) gg
    refine ZI dz hf (dz.real wD) (mz.mono λe w' ta=>?_)
    obtain⟨v,c',he,nL,j4,kW⟩:=ta
    have GO:∀r x,((c.only ids).pass w [] [] true).R r=some x->False:=λr x h=>by simp[Ctx.pass]at h
    obtain⟨gm,Ba⟩:=FW iU
    have hxK:jH (bK 0 (ea.length-0)) {c.pass w ids ea false with base:=0} w {c' with base:=0} w':=by
     refine⟨Zg9 nL.mem,⟨rfl,nL.cf.top,λb iK=>?_,λr x hr=>?_⟩,nL.fr.mono λb _ ⟨r,x,h1,_⟩=>(GO r x h1).elim,λb iK=>?_,λr x hr hv=>?_⟩
     ·have:c.I b:=by
       rcases iK with h|⟨h,_⟩
       ·exact h
       ·cases h
      exact⟨(nL.cf.I b (.inl this)).1,(nL.cf.I b (.inl this)).2⟩
     ·obtain⟨h1,row,h2,_⟩:=ox hr
      have Mw:ea[r]?=some row:=h2
      have:=(List.getElem?_eq_some_iff.1 Mw).1
      rw[MC.2 (by omega)]at h1;cases h1
     ·rcases nL.fu b iK with h|h
      ·rcases h with h|⟨_,r,row,g1,g2,g3,_,g5⟩
       ·exact .inl (.inl h)
       ·obtain⟨k1,k2,k3⟩:=MG g1
        have hp:=BB k1
        obtain⟨jA,q1,q2⟩:=Ba _ r hp
        have hl:=(List.getElem?_eq_some_iff.1 q2).1
        exact .inr (.inl ⟨_,_,MC.2 (by omega),q2,by simpa[Ctx.pass,Ctx.only,hp]using g2,by simpa[Ctx.pass,Ctx.only,hp]using g5⟩)
      ·exact .inr (.inr h)
     ·rcases nL.ov r x hr hv with⟨⟨y,h1⟩,_⟩|h
      ·exact(GO r y h1).elim
      ·exact .inr (.inr h)
    have:=Z8m (k:=0) (c':={c' with base:=0}) hm hR lr iU (by simp) hxK j4 rfl
    simp only[List.take_zero,List.drop_zero]at this
    exact⟨v,he,ry v w' _ this.2 (λr=>rfl) (ZH this.1 (flat:=False) (.inl λb hb=>hb) (λ_=>trivial) (λe=>e.elim) (xv kW))⟩
   split at h
   ·rename_i α v res aj hm
    exact main _ _ (h v rfl) (dz.abs wD _ _ _ _ _ _ hm).1
   ·rename_i p α v res aj hm
    exact main _ _ (h.2 v rfl) (dz.lV wD _ _ _ _ _ _ _ hm h.1).1
   ·exact h.elim
  ·exact h.elim
 ·exact h.elim
