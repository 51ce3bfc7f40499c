import Derived.Test.YthjfindbamdacaaGreatDoorAuditComparesFo
import Derived.Laws.Append
import Derived.Laws.CopyRow
import Derived.Laws.AppendOwn
open List renaming eq_nil_of_length_eq_zero->fQ,map_cons->fS,append_assoc->dD,getElem?_take->aU,getElem?_drop->fU,getElem?_toArray->aY,getD->aK,length_take->bD,length_drop->bF,getElem?_append_left->aZ,size_toArray->bA,getElem?_append_right->bB,getElem?_eq_none->aM,take_of_length_le->fK,getElem?_eq_getElem->cG,range'->bK,mem_of_getElem?->fX,mem_of_mem_take->cV,mem_of_mem_drop->cW,mem_cons->cR,mem_append->bX
open Bool renaming false_eq_true->aN
open Option renaming map_eq_some_iff->fR
open Nat renaming add_zero->bG,succ_mul->aW,mul_le_mul_right->aV,zero_add->aX,mul_comm->fV,le_refl->aO,add_mul->bC,le_trans->bH,le_mul_of_pos_right->fW
open Array renaming ext'->fT
set_option linter.all false
namespace Go.GD
open Go
section
variable {c:Ctx} {w:World} {ks:List Nat}
theorem uT(ks:List Nat)(row:Row):(row.kill ks).box=row.box/\(row.kill ks).ty=row.ty/\(row.kill ks).sz=row.sz/\(row.kill ks).es.l.length=row.es.l.length:=by
 unfold Row.kill;split<;>exact⟨rfl,rfl,rfl,rfl⟩
theorem Qxb:∀{e:List D},(D.j9 ks e).length=e.length
 |[]=>rfl
 |d::l=>by simp[D.j9,Qxb (e:=l)]
theorem Z86{d:D}{v:Value}(gg:∀f cs,d≠.gb f cs)(h:cu c w d v):cu (c.kill ks) w (d.ee ks) v:=by
 have key:∀r row,bq r ks=false->c.R r=some row->(c.kill ks).R r=some (row.kill ks):=λr row hr cb=>by simp[Ctx.kill,hr,cb]
 have h1:=cu.one h
 cases d with
 |all r=>
  simp only[D.ee]
  cases hr:bq r ks with
  |true=>exact h1
  |false=>
   obtain⟨row,g1,g2,g3⟩:=h
   obtain⟨s1,s2,s3,s4⟩:=uT ks row
   exact⟨_,key r row hr g1,s1.trans g2,by rw[s2,s3,s4];exact g3⟩
 |own r o n=>
  simp only[D.ee]
  cases hr:bq r ks with
  |true=>exact h1
  |false=>
   obtain⟨row,g1,g2,g3,g4⟩:=h
   obtain⟨s1,s2,s3,s4⟩:=uT ks row
   exact⟨_,key r row hr g1,s1.trans g2,by rw[s4];exact g3,by rw[s2,s3];exact g4⟩
 |ptr r i off=>
  simp only[D.ee]
  cases hr:bq r ks with
  |true=>exact h1
  |false=>
   obtain⟨row,g1,g2,g3,g4⟩:=h
   obtain⟨s1,s2,s3,s4⟩:=uT ks row
   exact⟨_,key r row hr g1,g2,by rw[s4];exact g3,by rw[s3];exact g4⟩
 |pa r i off len k n=>
  simp only[D.ee]
  cases hr:bq r ks with
  |true=>exact h1
  |false=>
   obtain⟨g0,row,g1,g2,g3,g4⟩:=h
   obtain⟨s1,s2,s3,s4⟩:=uT ks row
   exact⟨g0,_,key r row hr g1,g2,by rw[s4];exact g3,by rw[s3];exact g4⟩
 |cy r=>
  simp only[D.ee]
  cases hr:bq r ks with
  |true=>exact h1
  |false=>
   rcases h with h|⟨row,g1,g2,g3,g4⟩
   ·exact .inl h
   ·obtain⟨s1,s2,s3,s4⟩:=uT ks row
    exact .inr ⟨_,key r row hr g1,g2,by rw[s4];exact g3,by rw[s3];exact g4⟩
 |gb f cs=>exact absurd rfl (gg f cs)
 |_=>exact h
theorem zr{d:D}(gg:∀f cs,d≠.gb f cs)(h:∀r∈nu d,bq r ks=false):d.ee ks=d:=by
 cases d<;>first|rfl|(simp only[D.ee];rw[h _ (by simp[nu])])|exact absurd rfl (gg _ _)
theorem RR{d:D}{v:Value}(h:cu c w d v):cu (c.kill ks) w (d.ee ks) v:=by
 by_cases e:∃g cs,d=.gb g cs
 ·obtain⟨g,cs,rfl⟩:=e
  have h1:=cu.one h
  simp only[D.ee]
  cases hd:ny (oe cs) ks with
  |false=>exact h1
  |true=>
   obtain⟨us,hv,hu⟩:=h
   exact⟨us,hv,XG (c:=c) (w:=w) (c':=c.kill ks) (w':=w) (S:=λr=>bq r ks=false) (λd v q1 q2 q3=>by have:=Z86 (ks:=ks) q1 q3;rwa [zr q1 q2]at this) (λ_ hb=>⟨hb,rfl⟩) (λr hr=>by
    have:=Tn.1 hd r hr
    cases hm:bq r ks with
    |false=>rfl
    |true=>exact(this (nV.1 hm)).elim) hu⟩
 ·exact Z86 (λf cs e'=>e ⟨f,cs,e'⟩) h
theorem Zg6:∀{ds:List D} {vs:List Value},jh c w ds vs->jh (c.kill ks) w (D.j9 ks ds) vs
 |[],[],_=>trivial
 |_::_,_::_,h=>⟨RR h.1,Zg6 h.2⟩
 |[],_::_,h=>h.elim
 |_::_,[],h=>h.elim
theorem Zjm{d:D}{v:Value}(h:VRep c w d v):VRep (c.kill ks) w (d.kill ks) v:=by
 cases d with
 |agg cs=>obtain⟨vs,hv,hr⟩:=h;exact⟨vs,hv,Zg6 hr⟩
 |_=>
  have:=RR (ks:=ks) (VRep.toC (λcs e=>by cases e) h)
  exact VRep.Ed this
theorem Zeq:∀{ds:List D} {vs:List Value},jY c w ds vs->jY (c.kill ks) w (D.pq ks ds) vs
 |[],[],_=>trivial
 |_::_,_::_,h=>⟨Zjm h.1,Zeq h.2⟩
 |[],_::_,h=>h.elim
 |_::_,[],h=>h.elim
theorem VA{d:D}{v:Value}(h:Rep c w d v):Rep (c.kill ks) w (d.gd ks) v:=by
 cases d with
 |dt ds=>obtain⟨vs,hv,hr⟩:=h;exact⟨vs,hv,Zeq hr⟩
 |dead=>trivial
 |_=>
  have:=Zjm (ks:=ks) (Rep.toV (λds e=>by cases e) (λe=>by cases e) h)
  exact Rep.JX this
theorem Z67:∀{ds:List D} {arr:Array Value} {off:Nat},kA c w ds arr off->kA (c.kill ks) w (D.j9 ks ds) arr off
 |[],_,_,_=>trivial
 |_::_,_,_,⟨⟨v,hv,h1⟩,h2⟩=>⟨⟨v,hv,RR h1⟩,Z67 h2⟩
theorem Zlj{r:Nat}{row:Row}(h:Ef c w r row):Ef (c.kill ks) w r (row.kill ks):=by
 obtain⟨s1,s2,s3,s4⟩:=uT ks row
 rcases h with⟨h0,h1,h2,h3⟩|⟨h0,arr,ha,hs,hx⟩
 ·refine .inl ⟨h0,s1.trans h1,?_,by rw[s3];exact h3⟩
  rw[h2]at s4;exact fQ s4
 ·refine .inr ⟨h0,arr,by rw[s2];exact ha,by rw[s3];exact hs,?_⟩
  rw[s1,s3]
  split
  ·rename_i hb
   simp only[hb,if_true]at hx
   obtain⟨e,k1,k2,k3,k4⟩:=hx
   obtain⟨box,ty,sz,es⟩:=row
   simp only at hb k1 k2 k3 k4
   subst hb;subst k1
   exact⟨D.j9 ks e,rfl,by rw[Qxb];exact k2,k3,Z67 k4⟩
  ·rename_i hb
   simp only[hb,aN,if_false]at hx
   have he:(row.kill ks).es=row.es:=by
    unfold Row.kill
    split
    ·simp at hb
    ·rfl
   rw[he];exact hx
theorem nT{r:Nat}{x:Row}(h:(c.kill ks).R r=some x):bq r ks=false/\∃row,c.R r=some row/\x=row.kill ks:=by
 simp only[Ctx.kill]at h
 cases hb:bq r ks with
 |true=>rw[hb]at h;simp at h
 |false=>
  rw[hb]at h
  simp only[aN,if_false,fR]at h
  obtain⟨row,h1,h2⟩:=h
  exact⟨rfl,row,h1,h2.symm⟩
theorem XH(hm:Mem c w):Mem (c.kill ks) w:=by
 refine⟨λr x hx=>?_,λr s x y hx hy v1 v2 he=>?_,λb hb=>⟨(hm.fh b hb).1,λr x hx v=>?_⟩,hm.top,hm.kC⟩
 ·obtain⟨_,row,h1,rfl⟩:=nT hx
  exact Zlj (hm.row r row h1)
 ·obtain⟨_,row,h1,_⟩:=nT hx
  obtain⟨_,ao,h2,_⟩:=nT hy
  exact hm.inj r s row ao h1 h2 v1 v2 he
 ·obtain⟨_,row,h1,_⟩:=nT hx
  exact(hm.fh b hb).2 r row h1 v
end
theorem Zkw:∀{l:List Nat},ny l []=true
 |[]=>rfl
 |x::l=>by simp only[ny,bq];exact Zkw
theorem Vy(d:D):d.ee []=d:=by
 cases d with
 |gb f cs=>simp only[D.ee,Zkw]
 |_=>rfl
theorem Vx:∀{ds:List D},D.j9 [] ds=ds
 |[]=>rfl
 |d::l=>by simp only[D.j9,Vy,Vx (ds:=l)]
theorem Z39(row:Row):row.kill []=row:=by
 unfold Row.kill;split
 ·simp[Vx]
 ·rfl
theorem zP(c:Ctx):c.kill []=c:=by
 obtain⟨ρ,R,V,I,base,top,X⟩:=c
 simp only[Ctx.kill,bq,aN,if_false]
 congr 1
 funext r
 cases R r<;>simp[Z39]
theorem lu.toK{c c':Ctx}{w w':World}(h:lu c w c' w'):jA [] c w c' w':=
 ⟨h.mem,by rw[zP];exact h.bz,h.fr,λb hb=>(h.fh b hb).imp id .inr,λr ao h1 h2=>(h.nS r ao h1 h2).imp id .inr⟩
theorem O5{ks:List Nat}:∀{R:Rows} {i r:Nat},(rA ks R i).getD r none=if bq (i+r) ks=true then none else(R.getD r none).map (Row.kill ks)
 |[],i,r=>by simp[rA]
 |x::l,i,0=>by
  simp only[rA,bG]
  cases bq i ks<;>cases x<;>simp
 |x::l,i,r+1=>by
  have:=O5 (ks:=ks) (R:=l) (i:=i+1) (r:=r)
  rw[show i+1+r=i+(r+1) by omega]at this
  simpa[rA]using this
theorem IW{ks:List Nat}:∀{R:Rows} {i:Nat},(rA ks R i).length=R.length
 |[],_=>rfl
 |x::l,i=>by simp[rA,IW (R:=l)]
def rH(ks:List Nat)(env:List (Nat×D)):List (Nat×D):=env.map λx=>(x.1,x.2.gd ks)
theorem HK{ks:List Nat}:∀{env:List (Nat×D)} {K:List (Nat×D)->Prop},FK ks env K↔K (rH ks env)
 |[],_=>Iff.rfl
 |(t,d)::l,K=>by
  simp only[FK,D.cf]
  rw[HK (env:=l) (K:=λl=>K ((t,d.gd ks)::l))]
  rfl
theorem Bu{ks:List Nat}:∀{env:List (Nat×D)} {t:Nat},look (rH ks env) t=(look env t).gd ks
 |[],_=>rfl
 |(u,d)::l,t=>by
  simp only[rH,fS,look]
  cases Nat.beq u t with
  |true=>rfl
  |false=>exact Bu (env:=l)
theorem Qlo{P:Program}(w:World){t tx ty e:TypeId}{i:TypeInfo}{ux:TypeDesc}(ht:P.underlying t=some (.slice e))(oZ:P.underlying tx=some ux)(hx:∀k,ux≠.int k)(hi:P.info? e=some i)
 {a:Option Addr} {n cap m:Nat} {x:Value} {news:List Value} (hl:(Builtin.lenOf x).run P w=.ok m w) (hf:(Builtin.firstCells i.size m x).run P w=.ok news.toArray w) (kE:n+m<=cap) {w':World}
 (jL:∀b,a=some b->(storeCells (b.add (n*i.size)) news).run P w=.ok () w') (oy:a=none->w'=w):
 (Builtin.append_ #[t,tx] ty #[.slice a n cap,x]).run P w=.ok (.slice a (n+m) cap) w':=by
 have hz:(match ux with|.int _=>true|_=>false)=false:=by
  cases ux<;>first|rfl|exact absurd rfl (hx _)
 cases a with
 |none=>
  have:=oy rfl
  subst this
  simp[Builtin.append_,run_underlying ht,run_underlying oZ,hz,sizeOf,typeInfo,hi,hl,kE,hf]
 |some b=>simp[Builtin.append_,run_underlying ht,run_underlying oZ,hz,sizeOf,typeInfo,hi,hl,kE,hf,jL b rfl]
theorem Qm6{P:Program}(w:World){t tx ty e:TypeId}{i:TypeInfo}{z:Value}{ux:TypeDesc}(ht:P.underlying t=some (.slice e))(oZ:P.underlying tx=some ux)(hx:∀k,ux≠.int k)(hi:P.info? e=some i)(hz:i.zero=some z)
 {a:Option Addr} {n cap m:Nat} {x:Value} {kL news:List Value} (hl:(Builtin.lenOf x).run P w=.ok m w) (hf:(Builtin.firstCells i.size m x).run P w.drew=.ok news.toArray w.drew) (hfo:(Builtin.firstCells i.size n (.slice a n cap)).run P w.drew=.ok kL.toArray w.drew)
 (hg:cap<n+m) (h63:((n+m:Nat):Int)<=9223372036854775807) (pH:Builtin.nextslicecap (n+m) cap*i.bytes<=281474976710656):
 (Builtin.append_ #[t,tx] ty #[.slice a n cap,x]).run P w=.ok (.slice (some ⟨w.heap.size,0,none⟩) (n+m) (grownCap w (n+m) cap e))
  (w.drew.alloc (.cells (kL.toArray++news.toArray++Builtin.zeroCells z.cells (grownCap w (n+m) cap e-(n+m))) e)):=by
 have hn:¬(n+m<=cap):=by omega
 have H7:¬(9223372036854775807<((n:Int)+(m:Int))):=by omega
 have XI:¬(281474976710656<Builtin.nextslicecap (n+m) cap*i.bytes):=by omega
 simp[Builtin.append_,run_underlying ht,run_underlying oZ,sizeOf,typeInfo,zeroValue,hi,hz,hl,hn,H7,XI,Question.forced,hf,hfo,newRow,grownCap]
 congr 2
 apply fT
 simp[dD]
theorem yr{w:World}{b o:Nat}{arr:Array Value}{ty:TypeId}{fz:Nat×Nat}(h:w.heap[b]?=some (.cells arr ty fz))(j:Nat):w.cell? ((⟨b,o,none⟩:Addr).add j)=arr[o+j]? :=by
 rw[EP]
 unfold World.cell?
 simp[h]
theorem Zf5{I:ab}{w:World}{es:List (List D)}{arr:Array Value}{off sz:Nat}(h:iu I w es arr off sz)(h0:0<sz):∃news:List Value,news.length=es.length*sz/\(∀j u,news[j]?=some u->arr[off+j]?=some u)/\iu I w es news.toArray 0 sz:=by
 have fp:es.length*sz<=arr.size-off:=by
  by_cases he:es.length=0
  ·rw[he];omega
  ·obtain⟨h1,h2⟩:=uP.1 h (es.length-1) (by omega)
   obtain⟨v,hv,_⟩:=tB.1 h2 (sz-1) (by omega)
   have cj:=(Array.getElem?_eq_some_iff.1 hv).1
   have:es.length*sz=(es.length-1)*sz+sz:=by
    rw[show es.length*sz=(es.length-1+1)*sz by congr 1;omega,aW]
   omega
 refine⟨(arr.toList.drop off).take (es.length*sz),by simp;omega,λj u hj=>?_,?_⟩
 ·rw[aU]at hj
  split at hj
  ·rw[fU]at hj
   simpa using hj
  ·cases hj
 ·rw[uP]at h⊢
  intro i hi
  obtain⟨h1,h2⟩:=h i hi
  refine⟨h1,?_⟩
  rw[tB]at h2⊢
  intro j hj
  obtain⟨v,hv,hp⟩:=h2 j hj
  refine⟨v,?_,hp⟩
  have cj:i*sz+j<es.length*sz:=by
   have:=aV sz (show i+1<=es.length by omega)
   rw[aW]at this
   omega
  simp only[aX,aY]
  rw[aU,if_pos cj,fU,<-hv]
  simp[Nat.add_assoc]
theorem iu.one{I:ab}{w:World}{es:List (List D)}{news:List Value}{sz:Nat}(h:iu I w es news.toArray 0 sz)(hl:news.length=es.length*sz):∀u∈news,u.oneCell'=true:=by
 intro u hu
 obtain⟨j,hj⟩:=List.getElem?_of_mem hu
 have cj:=(List.getElem?_eq_some_iff.1 hj).1
 have h0:0<sz:=by
  rcases Nat.eq_zero_or_pos sz with h0|h0
  ·subst h0;simp at hl;rw[hl]at cj;simp at cj
  ·exact h0
 have hi:j/sz<es.length:=by rw[Nat.div_lt_iff_lt_mul h0];omega
 obtain⟨h1,h2⟩:=uP.1 h (j/sz) hi
 obtain⟨v,hv,hp⟩:=tB.1 h2 (j%sz) (by rw[h1];exact Nat.mod_lt _ h0)
 have e:0+j/sz*sz+j%sz=j:=by rw[aX,fV];exact Nat.div_add_mod j sz
 rw[e,aY,hj]at hv
 cases hv
 exact fq.one hp
theorem Zjc{I:ab}{w:World}(s:List UInt8):iu I w (ak.ints .u8 (jq s)).l (s.map λb=>Value.int .u8 b.toNat).toArray 0 1:=by
 rw[uP]
 intro i hi
 have il:i<s.length:=by simpa[jq,ak.l]using hi
 have he:(ak.ints .u8 (jq s)).l.getD i []=[.int .u8 s[i].toNat]:=by simp[jq,ak.l,aK,il]
 rw[he]
 refine⟨rfl,?_⟩
 simp only[Bo,wW,rO,ri,rP,rQ,rR,rS,sX,tE,tF,tG,tH,tI,tJ,tK,tL,tM,and_true]
 exact⟨_,by simp[il],rfl⟩
def Src(P:Program)(c:Ctx)(w:World)(v:Value)(ys:List (List D))(sz:Nat):Prop:=
 ∃news:List Value,news.length=ys.length*sz/\(Builtin.lenOf v).run P w=.ok ys.length w/\(∀k,k<=ys.length->∀w',w'.heap=w.heap->(Builtin.firstCells sz k v).run P w'=.ok (news.take (k*sz)).toArray w')/\iu c.I w ys news.toArray 0 sz
theorem IX{P:Program}{c:Ctx}{w:World}{sz sy:Nat}(h0:0<sz){es:List (List D)}{a:Option Addr}{cap:Nat}(ia:es=[]\/sy=sz/\∃b off arr ty fz,a=some ⟨b,off,none⟩/\w.heap[b]?=some (.cells arr ty fz)/\iu c.I w es arr off sy):
 Src P c w (.slice a es.length cap) es sz:=by
 rcases ia with ia|⟨hss,b,off,arr,ty,fz,ha,hh,hE⟩
 ·subst ia
  refine⟨[],by simp,by simp[Builtin.lenOf],λk hk w' _=>?_,by simp[pr,nU]⟩
  have wV:k=0:=by simpa using hk
  subst wV
  cases a with
  |none=>simp[Builtin.firstCells]
  |some a=>
   have:=run_firstCells_some (P:=P) w' sz 0 a 0 cap [] (by simp) (λj v h=>by simp at h)
   simpa using this
 ·subst hss
  obtain⟨news,g1,g2,g3⟩:=Zf5 hE h0
  refine⟨news,g1,by simp[Builtin.lenOf],λk hk w' XJ=>?_,g3⟩
  subst ha
  refine run_firstCells_some (P:=P) w' sy k ⟨b,off,none⟩ _ cap (news.take (k*sy)) ?_ λj u hj=>?_
  ·have:=aV sy hk
   simp;omega
  ·rw[yr (by rw[XJ];exact hh)]
   rw[aU]at hj
   split at hj
   ·exact g2 j u hj
   ·cases hj
theorem y0{P:Program}{c:Ctx}{w:World}{R:Rows}{y:D}{v:Value}{sy sz:Nat}{ys:ak}(h0:0<sz)(h:rT R y=some (sy,ys))(hs:sy=sz\/ys.l=[])(hm:Mem c w)(hA:mf c R)(hr:Rep c w y v):Src P c w v ys.l sz:=by
 cases y<;>simp only[rT]at h<;>try(cases h;done)
 case dq=>cases h;rw[show v=_ from hr];exact IX (sy:=sz) h0 (es:=[]) (.inl rfl)
 case emp=>cases h;obtain⟨a,hv,_⟩:=hr;rw[hv];exact IX (sy:=sz) h0 (es:=[]) (.inl rfl)
 case sl s es fr=>
  cases h
  obtain⟨a,cap,hv,hc,ia⟩:=hr
  rw[hv]
  refine IX (sy:=sy) h0 ?_
  rcases ia with ia|⟨b,off,arr,ty,fz,ha,hI,hf,hh,hE⟩
  ·exact .inl ia
  ·rcases hs with hs|hs
   ·exact .inr ⟨hs,b,off,arr,ty,fz,ha,hh,hE⟩
   ·exact .inl hs
 case all r=>
  split at h
  ·rename_i ty s es hR
   cases h
   obtain⟨row,g1,g2,hv⟩:=hr
   have:=hA r row _ g1 hR
   subst this
   rcases hv with⟨hV,a,hv,_⟩|⟨hV,cap,arr,hv,g3,g4,g5,g6⟩
   ·have he:=(hm.nQ g1 hV).2.1
    simp only at he
    rw[hv,he]
    exact IX (sy:=sz) h0 (es:=[]) (.inl rfl)
   ·obtain⟨iJ,jx,jd,hx⟩:=hm.real g1 hV
    simp only at g5 jx hx hv
    rw[g5]at jx;cases jx
    simp only[aN,if_false]at hx
    rw[hv]
    refine IX (sy:=sy) h0 ?_
    rcases hs with hs|hs
    ·exact .inr ⟨hs,_,0,arr,_,_,rfl,g5,hx⟩
    ·exact .inl hs
  ·cases h
 case own r o n=>
  split at h
  ·rename_i ty s es hR
   cases h
   obtain⟨row,g1,g2,g5,hv⟩:=hr
   have:=hA r row _ g1 hR
   subst this
   simp only at g5
   have hlen:((es.l.drop o).take n).length=n:=by simp only[bD,bF];omega
   rw[ak.iT,ak.j4]at hs⊢
   rcases hv with⟨g7,a,hv,_⟩|⟨hV,cap,arr,g3,g4,g6,hv,g7⟩
   ·subst g7
    rw[hv]
    have:=IX (P:=P) (c:=c) (w:=w) (sy:=sz) h0 (es:=(es.l.drop o).take 0) (a:=a) (cap:=0) (.inl (by simp))
    simpa using this
   ·obtain⟨iJ,jx,jd,hx⟩:=hm.real g1 hV
    simp only at g6 jx hx hv
    rw[g6]at jx;cases jx
    simp only[aN,if_false]at hx
    have hE:=LF (n:=n) (JT (l:=o) hx)
    have:=IX (P:=P) (c:=c) (w:=w) (sy:=sy) h0 (es:=(es.l.drop o).take n) (a:=some ⟨c.ρ r,o*sy,none⟩) (cap:=cap) (by
     rcases hs with hs|hs
     ·exact .inr ⟨hs,_,o*sy,arr,_,_,rfl,g6,by simpa using hE⟩
     ·exact .inl hs)
    rw[hlen]at this
    rw[hv];exact this
  ·cases h
theorem y3{P:Program}{c:Ctx}{w:World}{R:Rows}{ke kx:TK}{y:D}{v:Value}{sy sz:Nat}{ys:ak}(h0:0<sz)(h:Cg R ke kx y=some (sy,ys))(hs:sy=sz\/ys.l=[])(hm:Mem c w)(hA:mf c R)(hr:Rep c w y v):Src P c w v ys.l sz:=by
 unfold Cg at h
 split at h
 ·exact y0 h0 h hs hm hA hr
 ·split at h
  ·rename_i s
   cases h
   have hv:=Rep.str.1 hr
   subst hv
   have fp:(ByteArray.mk s.toArray).size=s.length:=by simp[ByteArray.size]
   have ext:∀k,((ByteArray.mk s.toArray).extract 0 k).data.toList=s.take k:=λk=>by
    simp[ByteArray.data_extract]
   have hf:∀k w',(Builtin.firstCells sz k (.string ⟨s.toArray⟩)).run P w'=.ok ((s.map λb=>Value.int .u8 b.toNat).take k).toArray w':=λk w'=>by
    simp only[Builtin.firstCells,Sem.run_pure]
    congr 1
    apply fT
    simp only[Array.toList_map,ext,List.map_take]
   rcases hs with hs|hs
   ·subst hs
    exact⟨s.map λb=>Value.int .u8 b.toNat,by simp[jq,ak.len],by simp[Builtin.lenOf,jq,ak.len,fp],λk hk w' _=>by rw[hf];simp,Zjc s⟩
   ·have:s=[]:=by simpa[jq,ak.l]using hs
    subst this
    exact⟨[],by simp[jq,ak.len],by simp[Builtin.lenOf,jq,ak.len,fp],λk hk w' _=>by rw[hf];simp,by simp[jq,ak.l,pr,nU]⟩
  ·cases h
 ·cases h
def Ctx.jl(c:Ctx)(k:Nat)(row:Row):Ctx:={c with R:=λr=>if r=k then some row else c.R r,V:=λr=>r=k\/c.V r}
theorem RU{c:Ctx}{w:World}{k:Nat}(hk:c.R k=none)(row:Row):jf c w (c.jl k row) w:=by
 refine⟨rfl,aO _,λb hb=>⟨hb,rfl⟩,λr x hr=>?_⟩
 have gg:r≠k:=λe=>by rw[e,hk]at hr;cases hr
 exact⟨x,by simp[Ctx.jl,gg,hr],rfl,rfl,rfl,rfl,rfl,by simp[Ctx.jl,gg],λ_ arr ha=>⟨arr,ha,rfl⟩⟩
theorem VD{c:Ctx}{w:World}(hm:Mem c w){k:Nat}(hk:c.R k=none){row:Row}(hb:row.box=false)(he:row.es.l=[])(h0:0<row.sz):Mem (c.jl k row) w:=by
 have hg:=RU (w:=w) hk row
 have inv:∀r x,(c.jl k row).R r=some x->¬(c.jl k row).V r->c.R r=some x/\¬c.V r:=λr x hr hv=>by
  have h1:¬r=k:=λe=>hv (.inl e)
  exact⟨by simpa[Ctx.jl,h1]using hr,λe=>hv (.inr e)⟩
 refine⟨λr x hr=>?_,λr s x y hr hs v1 v2 h=>?_,λb iq=>⟨(hm.fh b iq).1,λr x hr v=>?_⟩,hm.top,hm.kC⟩
 ·by_cases e:r=k
  ·subst e
   simp only[Ctx.jl,if_true,Option.some.injEq]at hr
   subst hr
   exact .inl ⟨.inl rfl,hb,he,h0⟩
  ·have nc:c.R r=some x:=by simpa[Ctx.jl,e]using hr
   exact tC hg rfl (by simp[Ctx.jl,e]) (λ_=>rfl) (hm.row r x nc)
 ·obtain⟨h1,h2⟩:=inv r x hr v1
  obtain⟨h3,h4⟩:=inv s y hs v2
  exact hm.inj r s x y h1 h3 h2 h4 h
 ·obtain⟨h1,h2⟩:=inv r x hr v
  exact(hm.fh b iq).2 r x h1 h2
theorem Mt(c:Ctx)(w:World):jf c w c w.drew:=⟨rfl,aO _,λb hb=>⟨hb,rfl⟩,λr row hr=>⟨row,hr,rfl,rfl,rfl,rfl,rfl,Iff.rfl,λ_ arr ha=>⟨arr,ha,rfl⟩⟩⟩
theorem JR{c:Ctx}{w:World}(h:Mem c w):Mem c w.drew:=
 ⟨λr row hr=>tC (Mt c w) rfl Iff.rfl (λ_=>rfl) (h.row r row hr),h.inj,h.fh,h.top,h.kC⟩
theorem XK{I:ab}{w:World}{es ys:List (List D)}{A B C:List Value}{sz:Nat}(h1:iu I w es A.toArray 0 sz)(hA:A.length=es.length*sz)(h2:iu I w ys B.toArray 0 sz)(hB:B.length=ys.length*sz):iu I w (es++ys) (A++B++C).toArray 0 sz:=by
 rw[uP]at h1 h2⊢
 intro i hi
 by_cases cj:i<es.length
 ·have he:(es++ys).getD i []=es.getD i []:=by simp[aK,aZ cj]
  rw[he]
  obtain⟨g1,g2⟩:=h1 i cj
  refine⟨g1,?_⟩
  rw[tB]at g2⊢
  intro j hj
  obtain⟨v,hv,hp⟩:=g2 j hj
  refine⟨v,?_,hp⟩
  have hl:=(Array.getElem?_eq_some_iff.1 hv).1
  simp only[aY,bA]at hv hl⊢
  rw[dD,aZ hl];exact hv
 ·have il:i-es.length<ys.length:=by simp at hi;omega
  have he:(es++ys).getD i []=ys.getD (i-es.length) []:=by simp[aK,bB (show es.length<=i by omega)]
  rw[he]
  obtain⟨g1,g2⟩:=h2 _ il
  refine⟨g1,?_⟩
  rw[tB]at g2⊢
  intro j hj
  obtain⟨v,hv,hp⟩:=g2 j hj
  refine⟨v,?_,hp⟩
  have hl:=(Array.getElem?_eq_some_iff.1 hv).1
  simp only[aY,bA]at hv hl⊢
  have e:0+i*sz+j=A.length+(0+(i-es.length)*sz+j):=by
   rw[hA,show i*sz=(es.length+(i-es.length))*sz by congr 1;omega,bC];omega
  rw[e,dD,bB (by omega),aZ (by omega)]
  rw[show A.length+(0+(i-es.length)*sz+j)-A.length=0+(i-es.length)*sz+j by omega]
  exact hv
theorem yP{c:Ctx}{w:World}(hm:Mem c w){r k:Nat}{row ao:Row}{cur arr:Array Value}(hr:c.R r=some row)(hV:¬c.V r)(hk:c.R k=none)(hh:w.heap[c.ρ r]?=some (.cells cur row.ty (0,0)))(To:ao.ty=row.ty)(h0:0<ao.sz)(hb:ao.box=false)
 (hE:∀w',(∀b,c.I b->w'.heap[b]?=w.heap[b]?)->iu c.I w' ao.es.l arr 0 ao.sz):
 jf (c.kill [r]) w ((c.kill [r]).add k ao (c.ρ r)) (w.setRow (c.ρ r) arr)/\Mem ((c.kill [r]).add k ao (c.ρ r)) (w.setRow (c.ρ r) arr):=by
 have BC:=XH (ks:=[r]) hm
 have ER:(c.kill [r]).R k=none:=by simp[Ctx.kill,hk]
 have oy:∀s x,(c.kill [r]).R s=some x->s≠r/\s≠k:=λs x hs=>by
  obtain⟨h1,jT,h2,_⟩:=nT hs
  refine⟨λe=>?_,λe=>by rw[e,ER]at hs;cases hs⟩
  rw[e]at h1
  have:=nV (r:=r) (l:=[r])
  simp[h1]at this
 have ey:(w.setRow (c.ρ r) arr).heap[c.ρ r]?=some (.cells arr row.ty (0,0)):=setRow_heap w _ _ _ _ _ hh
 have Ch:∀s x,(c.kill [r]).R s=some x->¬c.V s->(w.setRow (c.ρ r) arr).heap[c.ρ s]?=w.heap[c.ρ s]? :=λs x hs v=>setRow_other w _ _ _ λe=>by
  obtain⟨_,jT,h2,_⟩:=nT hs
  exact(oy s x hs).1 (hm.inj s r jT row h2 hr v hV e)
 have hI:∀b,c.I b->(w.setRow (c.ρ r) arr).heap[b]?=w.heap[b]? :=λb hb=>setRow_other w _ _ _ (λe=>(hm.fh b hb).2 r row hr hV e.symm)
 have hg:jf (c.kill [r]) w ((c.kill [r]).add k ao (c.ρ r)) (w.setRow (c.ρ r) arr):=by
  refine⟨rfl,aO _,λb hb=>⟨hb,hI b hb⟩,λs x hs=>?_⟩
  obtain⟨n1,n2⟩:=oy s x hs
  exact⟨x,by simp[Ctx.add,n2,hs],rfl,rfl,rfl,rfl,by simp[Ctx.add,n2],by simp[Ctx.add,n2],λv a ha=>⟨a,(Ch s x hs v).trans ha,rfl⟩⟩
 have inv:∀s x,((c.kill [r]).add k ao (c.ρ r)).R s=some x->¬((c.kill [r]).add k ao (c.ρ r)).V s->(s=k/\((c.kill [r]).add k ao (c.ρ r)).ρ s=c.ρ r)\/(s≠k/\s≠r/\((c.kill [r]).add k ao (c.ρ r)).ρ s=c.ρ s/\¬c.V s/\∃y,c.R s=some y):=λs x hs v=>by
  by_cases e:s=k
  ·exact .inl ⟨e,by simp[Ctx.add,e]⟩
  ·have jd:(c.kill [r]).R s=some x:=by simpa[Ctx.add,e]using hs
   obtain⟨_,y,hy,_⟩:=nT jd
   have v':¬c.V s:=λh=>v (by simp only[Ctx.add];exact⟨e,h⟩)
   exact .inr ⟨e,(oy s x jd).1,by simp[Ctx.add,e,Ctx.kill],v',y,hy⟩
 refine⟨hg,⟨λs x hs=>?_,λs q x y hs hq v1 v2 he=>?_,λb iq=>?_,by show c.top<=(w.setRow _ _).heap.size;simpa[World.setRow]using hm.top,hm.kC.mono hg.I⟩⟩
 ·by_cases e:s=k
  ·subst e
   simp only[Ctx.add,if_true,Option.some.injEq]at hs
   subst hs
   refine .inr ⟨by simp[Ctx.add],arr,by simp only[Ctx.add,if_true];rw[To];exact ey,h0,?_⟩
   rw[hb]
   simp only[aN,if_false]
   exact hE _ hI
  ·have jd:(c.kill [r]).R s=some x:=by simpa[Ctx.add,e]using hs
   exact tC hg (by simp[Ctx.add,e]) (by simp[Ctx.add,e]) (λv=>Ch s x jd v) (BC.row s x jd)
 ·rcases inv s x hs v1 with⟨e1,p1⟩|⟨e1,p1,p2,p3,y1,p4⟩<;>rcases inv q y hq v2 with⟨e2,q1⟩|⟨e2,q1,q2,q3,y2,q4⟩
  ·rw[e1,e2]
  ·rw[p1,q2]at he
   exact(q1 (hm.inj q r y2 row q4 hr q3 hV he.symm)).elim
  ·rw[p2,q1]at he
   exact(p1 (hm.inj s r y1 row p4 hr p3 hV he)).elim
  ·rw[p2,q2]at he
   exact hm.inj s q y1 y2 p4 q4 p3 q3 he
 ·refine⟨by simpa[World.setRow]using(hm.fh b iq).1,λs x hs v=>?_⟩
  rcases inv s x hs v with⟨e1,p1⟩|⟨e1,p1,p2,p3,y1,p4⟩
  ·rw[p1];exact(hm.fh b iq).2 r row hr hV
  ·rw[p2];exact(hm.fh b iq).2 s y1 p4 p3
def Br(P:Program)(o:Oper)(ev:Operand->D)(R:Rows)(ks:List Nat)(val:D)(R':Rows):Prop:=
 ∀ (c:Ctx) (w:World) (a:Act),Mem c w->c.base<=w.heap.size->(∀r,c.R r=R.getD r none)->(∀x∈o.op.operands,Rep c w (ev x) (a.eval x))->
  ∀K Q,(∀v w' c',jA ks c w c' w'->(∀r,c'.R r=R'.getD r none)->Rep c' w' val v->K (a.put o.dst v) w')->o.mN P a w K Q
theorem Ee.toK{P:Program}{o:Oper}{ev:Operand->D}{R:Rows}{val:D}{R':Rows}(h:Ee P o ev R val R'):Br P o ev R [] val R':=
 λc w a hm hb hR eg K Q hK=>h c w a hm hb hR eg K Q λv w' c' hn jQ hv=>hK v w' c' hn.toK jQ hv
section
variable {P:Program} {c:Ctx} {w:World} {R:Rows} {ks:List Nat} {e sz ly:Nat} {es ys:ak}
theorem Tp{row:Row}{ρ':Nat->Nat}{V':Nat->Prop}(hR:∀r,c.R r=R.getD r none):∀r,(if r=R.length then some row else(c.kill ks).R r)=(rA ks R 0++[some row]).getD r none:=by
 intro r
 by_cases e:r=R.length
 ·subst e
  simp[aK,bB,IW]
 ·rw[if_neg e]
  by_cases cj:r<R.length
  ·rw[aK,aZ (by rw[IW];exact cj),<-aK,O5]
   simp[Ctx.kill,hR]
  ·rw[aK,aM (by simp[IW];omega)]
   simp[Ctx.kill,hR,aM (show R.length<=r by omega)]
theorem append_empty{t tx ty:TypeId}{i:TypeInfo}{z:Value}{ux:TypeDesc}(ht:P.underlying t=some (.slice e))(oZ:P.underlying tx=some ux)(hx: ∀k,ux≠ .int k)(hi:P.info? e=some i)(hz:i.zero=some z)(fp:i.size=sz)(uh:i.bytes=ly)(ES:z.cells.size=sz)
    (hm:Mem c w) (hb:c.base<=w.heap.size) (hR: ∀r,c.R r=R.getD r none) (h0:0<sz) (oX:0<ly) (og:ly*(0+ys.l.length)<=140737488355328) {a:Option Addr} (Ad:Ac c.top a) {vy:Value} (hs:Src P c w vy ys.l sz):
    ∃v' w' c',(Builtin.append_ #[t,tx] ty #[.slice a 0 0,vy]).run P w= .ok v' w'/\jA ks c w c' w'/\(∀r,c'.R r=(rA ks R 0++[some (⟨false,e,sz,ys⟩:Row)]).getD r none)/\Rep c' w' (.all R.length) v':=by
  obtain⟨news,g1,g2,g3,g4⟩:=hs
  have hk:c.R R.length=none:=by rw[hR];simp [aK]
  have ER:(c.kill ks).R R.length=none:=by simp [Ctx.kill,hk]
  have BC:=XH (ks:=ks) hm
  subst fp
  by_cases hm0:ys.l.length=0
  . have RZ:ys.l=[]:=fQ hm0
    have hn:news=[]:=fQ (by rw[g1,hm0];simp)
    subst hn
    rw[RZ]at g2 g3
    have gz:=Qlo (P:=P) w (ty:=ty) (n:=0) (cap:=0) (a:=a) (w':=w) ht oZ hx hi g2 (by simpa using g3 0 (aO _) w rfl) (by simp) (λb _=>by simp [storeCells]) (λ_=>rfl)
    refine⟨_,w,(c.kill ks).jl R.length ⟨false,e,i.size,ys⟩,gz,⟨VD BC ER rfl RZ h0,RU ER _,Fr.refl _ w,λb hb=> .inl hb,λr ao h1 h2=> ?_⟩,Tp (ρ':=c.ρ) (V':=c.V) hR,?_⟩
    . have gg:r≠R.length:=λe=>h2 (.inl e)
      have oK:(c.kill ks).R r=some ao:=by simpa [Ctx.jl,gg] using h1
      obtain⟨_,jT,h3,_⟩:=nT oK
      exact .inl ⟨⟨jT,h3⟩,λe=>h2 (.inr e),rfl⟩
    . exact⟨⟨false,e,i.size,ys⟩,by simp [Ctx.jl],rfl, .inl ⟨.inl rfl,a,rfl,Ad⟩⟩
  . have hlen:(0+ys.l.length:Nat)*i.bytes<=140737488355328:=by rw[uh,fV];exact og
    have Ih:0+ys.l.length<=140737488355328:=bH (fW _ (by rw[uh];exact oX)) hlen
    have XL:0+ys.l.length<=maxLen:=by unfold maxLen;omega
    have gz:=Qm6 (P:=P) w (ty:=ty) (n:=0) (cap:=0) (a:=a) (kL:=[]) (news:=news) ht oZ hx hi hz g2
      (by have:=g3 _ (aO _) w.drew rfl;rwa [fK (by omega)]at this)
      (by cases a with
          |none=>simp [Builtin.firstCells]
          |some a=>simpa using run_firstCells_some (P:=P) w.drew i.size 0 a 0 0 [] (by simp) (λj v h=>by simp at h)) (by omega) (by omega) (growslice_fits (by omega) hlen)
    have pk:=grownCap_ge w (0+ys.l.length) 0 e
    have Ab:grownCap w (0+ys.l.length) 0 e<=maxLen:=grownCap_le_maxLen w _ _ e XL
    generalize grownCap w (0+ys.l.length) 0 e=gc at gz pk Ab
    have lQ:(#[]++news.toArray++Builtin.zeroCells z.cells (gc-(0+ys.l.length))).size=gc*i.size:=by
      have e1:(#[]++news.toArray++Builtin.zeroCells z.cells (gc-(0+ys.l.length))).size=ys.l.length*i.size+(gc-(0+ys.l.length))*i.size:=by
        simp [size_zeroCells,ES,g1]
      rw[e1,<-bC]
      congr 1;omega
    have hE: ∀(I:ab) (w':World),(∀b,c.I b->I b/\w'.heap[b]? =w.heap[b]?)->iu I w' ys.l (#[]++news.toArray++Builtin.zeroCells z.cells (gc-(0+ys.l.length))) 0 i.size:=λI w' h=>by
      have:=XK (I:=I) (w:=w') (es:=[]) (ys:=ys.l) (A:=[]) (B:=news) (C:=(Builtin.zeroCells z.cells (gc-(0+ys.l.length))).toList) (sz:=i.size) (by simp [pr,nU]) (by simp) (nP h _ _ _ _ g4) g1
      have h2:(#[]++news.toArray++Builtin.zeroCells z.cells (gc-(0+ys.l.length)))=([]++news++(Builtin.zeroCells z.cells (gc-(0+ys.l.length))).toList).toArray:=by apply fT;simp
      rw[h2];simpa using this
    have GR:=Mem.alloc (w:=w.drew) (JR BC) ER ⟨false,e,i.size,ys⟩ (#[]++news.toArray++Builtin.zeroCells z.cells (gc-(0+ys.l.length))) h0 (by
      simp only[aN,if_false]
      exact hE _ _ λb hb=>⟨hb,rfl⟩)
    have oh:=XM (c:=c.kill ks) (w:=w.drew) (k:=R.length) (e:=e) (sz:=i.size) (cap:=gc) (es:=ys) (arr:= #[]++news.toArray++Builtin.zeroCells z.cells (gc-(0+ys.l.length))) (by omega) Ab lQ.symm
    refine⟨_,_,(c.kill ks).add R.length ⟨false,e,i.size,ys⟩ w.heap.size,gz,⟨GR,(Mt _ w).trans (jf.alloc (w:=w.drew) (JR BC) ER _ _),?_,λb hb=> .inl hb,λr ao h1 h2=> ?_⟩,Tp (ρ':=c.ρ) (V':=c.V) hR,by have h3:=oh;simp only[aX]at h3⊢;exact h3⟩
    . exact Fr.trans (w':=w.drew) ⟨rfl,rfl,rfl,aO _,λ_ _ _=>rfl⟩ (Fr.alloc _ w.drew _)
    . by_cases e1:r=R.length
      . subst e1
        right;right
        simp [Ctx.add]
      . have oK:(c.kill ks).R r=some ao:=by simpa [Ctx.add,e1] using h1
        obtain⟨_,jT,h3,_⟩:=nT oK
        exact .inl ⟨⟨jT,h3⟩,by simpa [Ctx.add,e1,Ctx.kill] using h2,by simp [Ctx.add,e1,Ctx.kill]⟩
theorem Zeo{t tx ty:TypeId}{i:TypeInfo}{z:Value}{ux:TypeDesc}(ht:P.underlying t=some (.slice e))(oZ:P.underlying tx=some ux)(hx:∀k,ux≠.int k)(hi:P.info? e=some i)(hz:i.zero=some z)(fp:i.size=sz)(uh:i.bytes=ly)(ES:z.cells.size=sz)
 (hm:Mem c w) (hb:c.base<=w.heap.size) (hR:∀r,c.R r=R.getD r none) (h0:0<sz) (oX:0<ly) (og:ly*(es.l.length+ys.l.length)<=140737488355328) {r:Nat} {row:Row} (q1:c.R r=some row) (To:row.ty=e) (hV:¬c.V r) {cap:Nat} {cur:Array Value} (h1:es.l.length<=cap) (h2:cap<=maxLen) (h3:w.heap[c.ρ r]?=some (.cells cur e (0,0))) (h4:cap*sz=cur.size) (IY:iu c.I w es.l cur 0 sz) {vy:Value} (hs:Src P c w vy ys.l sz):
 ∃v' w' c',(Builtin.append_ #[t,tx] ty #[.slice (some ⟨c.ρ r,0,none⟩) es.l.length cap,vy]).run P w=.ok v' w'/\jA [r] c w c' w'/\(∀q,c'.R q=(rA [r] R 0++[some (⟨false,e,sz,es.app ys⟩:Row)]).getD q none)/\Rep c' w' (.all R.length) v':=by
 obtain⟨news,g1,g2,g3,g4⟩:=hs
 have hk:c.R R.length=none:=by rw[hR];simp[aK]
 have ER:(c.kill [r]).R R.length=none:=by simp[Ctx.kill,hk]
 have BC:=XH (ks:=[r]) hm
 subst fp
 have hlen:(es.l.length+ys.l.length)*i.bytes<=140737488355328:=by rw[uh,fV];exact og
 have Ih:es.l.length+ys.l.length<=140737488355328:=bH (fW _ (by rw[uh];exact oX)) hlen
 have XL:es.l.length+ys.l.length<=maxLen:=by unfold maxLen;omega
 obtain⟨kL,o1,o2,o3⟩:=Zf5 IY h0
 by_cases kE:es.l.length+ys.l.length<=cap
 ·have pH:es.l.length*i.size+0+news.length<=cur.size:=by rw[g1,<-h4,bG,<-bC];exact aV _ kE
  have jL:=run_storeCells_at (P:=P) (c.ρ r) (es.l.length*i.size) e news 0 cur w h3 pH (iu.one g4 g1)
  simp only[bG]at jL pH
  have gz:=Qlo (P:=P) w (ty:=ty) (n:=es.l.length) (cap:=cap) (a:=some ⟨c.ρ r,0,none⟩) ht oZ hx hi g2 (by have:=g3 _ (aO _) w rfl;rwa [fK (by omega)]at this) kE (λb hb=>by cases hb;rw[Addr.add_lit,aX];exact jL) (λh=>by cases h)
  have hE:∀w',(∀b,c.I b->w'.heap[b]?=w.heap[b]?)->iu c.I w' (es.app ys).l (cur.toList.take (es.l.length*i.size)++news++cur.toList.drop (es.l.length*i.size+news.length)).toArray 0 i.size:=λw' h=>by
   rw[ak.jS]
   refine XK (A:=cur.toList.take (es.l.length*i.size)) (nP (λb hb=>⟨hb,h b hb⟩) _ _ _ _ ?_) (by rw[bD,show cur.toList.length=cur.size from rfl];omega) (nP (λb hb=>⟨hb,h b hb⟩) _ _ _ _ g4) g1
   have:cur.toList.take (es.l.length*i.size)=kL:=by
    apply List.ext_getElem?
    intro j
    by_cases hj:j<kL.length
    ·have:=o2 j _ (cG hj)
     rw[aU,if_pos (by omega),cG hj]
     simpa using this
    ·rw[aM (by rw[bD];omega),aM (by omega)]
   rw[this];exact o3
  obtain⟨k1,k2⟩:=yP hm (k:=R.length) (ao:=⟨false,e,i.size,es.app ys⟩) q1 hV hk (by rw[To];exact h3) To.symm h0 rfl hE
  refine⟨_,_,_,gz,⟨k2,k1,(RL w _ _).mono λb _ hb=>⟨r,_,q1,hV,hb.symm⟩,λb hb=>.inl hb,λq ao p1 p2=>?_⟩,Tp (ρ':=c.ρ) (V':=c.V) hR,?_⟩
  ·by_cases e1:q=R.length
   ·subst e1
    exact .inr (.inl ⟨r,_,by simp[bq],q1,hV,by simp[Ctx.add]⟩)
   ·have oK:(c.kill [r]).R q=some ao:=by simpa[Ctx.add,e1]using p1
    obtain⟨_,jT,IL,_⟩:=nT oK
    exact .inl ⟨⟨jT,IL⟩,by simpa[Ctx.add,e1,Ctx.kill]using p2,by simp[Ctx.add,e1,Ctx.kill]⟩
  ·refine⟨⟨false,e,i.size,es.app ys⟩,by simp[Ctx.add],rfl,.inr ⟨by simp[Ctx.add],cap,(cur.toList.take (es.l.length*i.size)++news++cur.toList.drop (es.l.length*i.size+news.length)).toArray,?_,by rw[ak.jS,lA];exact kE,h2,?_,?_⟩⟩
   ·simp only[Ctx.add,if_true,ak.jS,lA]
   ·simp only[Ctx.add,if_true];exact setRow_heap w _ _ _ _ _ h3
   ·simp only[bA,lA,bD,bF,Array.length_toList]
    rw[h4];omega
 ·have gz:=Qm6 (P:=P) w (ty:=ty) (n:=es.l.length) (cap:=cap) (a:=some ⟨c.ρ r,0,none⟩) (kL:=kL) (news:=news) ht oZ hx hi hz g2
   (by have:=g3 _ (aO _) w.drew rfl;rwa [fK (by omega)]at this)
   (run_firstCells_some (P:=P) w.drew i.size es.l.length _ _ cap kL o1 λj v hj=>by
    rw[yr (w:=w.drew) h3];exact o2 j v hj) (by omega) (by omega) (growslice_fits (by omega) hlen)
  have pk:=grownCap_ge w (es.l.length+ys.l.length) cap e
  have Ab:grownCap w (es.l.length+ys.l.length) cap e<=maxLen:=grownCap_le_maxLen w _ _ e XL
  generalize grownCap w (es.l.length+ys.l.length) cap e=gc at gz pk Ab
  have lQ:(kL.toArray++news.toArray++Builtin.zeroCells z.cells (gc-(es.l.length+ys.l.length))).size=gc*i.size:=by
   have e1:(kL.toArray++news.toArray++Builtin.zeroCells z.cells (gc-(es.l.length+ys.l.length))).size=es.l.length*i.size+ys.l.length*i.size+(gc-(es.l.length+ys.l.length))*i.size:=by
    simp[size_zeroCells,ES,g1,o1]
   rw[e1,<-bC,<-bC]
   congr 1;omega
  have hE:∀(I:ab) (w':World),(∀b,c.I b->I b/\w'.heap[b]?=w.heap[b]?)->iu I w' (es.app ys).l (kL.toArray++news.toArray++Builtin.zeroCells z.cells (gc-(es.l.length+ys.l.length))) 0 i.size:=λI w' h=>by
   rw[ak.jS]
   have:=XK (I:=I) (w:=w') (es:=es.l) (ys:=ys.l) (A:=kL) (B:=news) (C:=(Builtin.zeroCells z.cells (gc-(es.l.length+ys.l.length))).toList) (sz:=i.size) (nP h _ _ _ _ o3) o1 (nP h _ _ _ _ g4) g1
   have h2:(kL.toArray++news.toArray++Builtin.zeroCells z.cells (gc-(es.l.length+ys.l.length)))=(kL++news++(Builtin.zeroCells z.cells (gc-(es.l.length+ys.l.length))).toList).toArray:=by apply fT;simp
   rw[h2];exact this
  have GR:=Mem.alloc (w:=w.drew) (JR BC) ER ⟨false,e,i.size,es.app ys⟩ (kL.toArray++news.toArray++Builtin.zeroCells z.cells (gc-(es.l.length+ys.l.length))) h0 (by
   simp only[aN,if_false]
   exact hE _ _ λb hb=>⟨hb,rfl⟩)
  have oh:=XM (c:=c.kill [r]) (w:=w.drew) (k:=R.length) (e:=e) (sz:=i.size) (cap:=gc) (es:=es.app ys) (arr:=kL.toArray++news.toArray++Builtin.zeroCells z.cells (gc-(es.l.length+ys.l.length))) (by rw[ak.jS,lA];omega) Ab lQ.symm
  refine⟨_,_,(c.kill [r]).add R.length ⟨false,e,i.size,es.app ys⟩ w.heap.size,gz,⟨GR,(Mt _ w).trans (jf.alloc (w:=w.drew) (JR BC) ER _ _),?_,λb hb=>.inl hb,λq ao p1 p2=>?_⟩,Tp (ρ':=c.ρ) (V':=c.V) hR,by rw[ak.jS,lA]at oh;exact oh⟩
  ·exact Fr.trans (w':=w.drew) ⟨rfl,rfl,rfl,aO _,λ_ _ _=>rfl⟩ (Fr.alloc _ w.drew _)
  ·by_cases e1:q=R.length
   ·subst e1
    right;right
    simp[Ctx.add]
   ·have oK:(c.kill [r]).R q=some ao:=by simpa[Ctx.add,e1]using p1
    obtain⟨_,jT,IL,_⟩:=nT oK
    exact .inl ⟨⟨jT,IL⟩,by simpa[Ctx.add,e1,Ctx.kill]using p2,by simp[Ctx.add,e1,Ctx.kill]⟩
theorem Znl{t tx ty:TypeId}{i:TypeInfo}{z:Value}{ux:TypeDesc}(ht:P.underlying t=some (.slice e))(oZ:P.underlying tx=some ux)(hx:∀k,ux≠.int k)(hi:P.info? e=some i)(hz:i.zero=some z)(fp:i.size=sz)(uh:i.bytes=ly)(ES:z.cells.size=sz)
 (hm:Mem c w) (hb:c.base<=w.heap.size) (hR:∀r,c.R r=R.getD r none) (h0:0<sz) (oX:0<ly) (og:ly*(es.l.length+ys.l.length)<=140737488355328) {r:Nat} (hr:R.getD r none=some ⟨false,e,sz,es⟩) {vx vy:Value} (XN:Rep c w (.all r) vx) (hs:Src P c w vy ys.l sz):
 ∃v' w' c',(Builtin.append_ #[t,tx] ty #[vx,vy]).run P w=.ok v' w'/\jA [r] c w c' w'/\(∀q,c'.R q=(rA [r] R 0++[some (⟨false,e,sz,es.app ys⟩:Row)]).getD q none)/\Rep c' w' (.all R.length) v':=by
 obtain⟨row,q1,q2,hv⟩:=XN
 have cb:row=⟨false,e,sz,es⟩:=by rw[hR,hr]at q1;exact(Option.some.inj q1).symm
 subst cb
 rcases hv with⟨hV,a,hv,Ad⟩|⟨hV,cap,cur,hv,h1,h2,h3,h4⟩
 ·have he:=(hm.nQ q1 hV).2.1
  simp only at he
  subst hv
  have hl:(es.app ys).l=ys.l:=by rw[ak.jS,he];rfl
  exact append_empty (ks:=[r]) (ys:=es.app ys) ht oZ hx hi hz fp uh ES hm hb hR h0 oX (by rw[hl];rw[he]at og;simpa using og) Ad (by rw[hl];exact hs)
 ·have hl:=hm.real q1 hV
  obtain⟨MS,jx,_,IY⟩:=hl
  simp only at h1 h3 h4 hv jx
  subst hv
  rw[h3]at jx;cases jx
  simp only[aN,if_false]at IY
  exact Zeo ht oZ hx hi hz fp uh ES hm hb hR h0 oX og q1 rfl hV h1 h2 h3 h4 IY hs
theorem Zmn{n:Nat}{t tx ty:TypeId}{i:TypeInfo}{z:Value}{ux:TypeDesc}(ht:P.underlying t=some (.slice e))(oZ:P.underlying tx=some ux)(hx:∀k,ux≠.int k)(hi:P.info? e=some i)(hz:i.zero=some z)(fp:i.size=sz)(uh:i.bytes=ly)(ES:z.cells.size=sz)
 (hm:Mem c w) (hb:c.base<=w.heap.size) (hR:∀r,c.R r=R.getD r none) (h0:0<sz) (oX:0<ly) (og:ly*((es.take n).l.length+ys.l.length)<=140737488355328) {r:Nat} (hr:R.getD r none=some ⟨false,e,sz,es⟩) {vx vy:Value} (XN:Rep c w (.own r 0 n) vx) (hs:Src P c w vy ys.l sz):
 ∃v' w' c',(Builtin.append_ #[t,tx] ty #[vx,vy]).run P w=.ok v' w'/\jA [r] c w c' w'/\(∀q,c'.R q=(rA [r] R 0++[some (⟨false,e,sz,(es.take n).app ys⟩:Row)]).getD q none)/\Rep c' w' (.all R.length) v':=by
 obtain⟨row,q1,q2,hle,hv⟩:=XN
 have cb:row=⟨false,e,sz,es⟩:=by rw[hR,hr]at q1;exact(Option.some.inj q1).symm
 subst cb
 have hln:(es.take n).l.length=n:=by rw[ak.iT,bD];simp only at hle;omega
 rcases hv with⟨h0',a,hv,Ad⟩|⟨hV,cap,cur,h1,h2,h3,hv,h4⟩
 ·subst hv;subst h0'
  have GQ:(es.take 0).l=[]:=by rw[ak.iT];rfl
  have hl:((es.take 0).app ys).l=ys.l:=by rw[ak.jS,GQ];rfl
  have g:jf c w {c with top:=w.heap.size} w:=⟨rfl,hm.top,λb hb=>⟨hb,rfl⟩,λr row hr=>⟨row,hr,rfl,rfl,rfl,rfl,rfl,Iff.rfl,λnv arr ha=>⟨arr,ha,rfl⟩⟩⟩
  have HR:Mem {c with top:=w.heap.size} w:=⟨λr row hr=>tC g rfl Iff.rfl (λ_=>rfl) (hm.row r row hr),hm.inj,hm.fh,aO _,hm.kC⟩
  have FN:Ac w.heap.size a:=by
   rcases Ad with h|⟨hV,h⟩
   ·exact h.mono hm.top
   ·exactλx hx=>by rw[h x hx];exact hm.lt q1 hV
  obtain⟨v',w',c',p1,p2,p3,p4⟩:=append_empty (c:={c with top:=w.heap.size}) (ks:=[r]) (ys:=(es.take 0).app ys) ht oZ hx hi hz fp uh ES HR hb hR h0 oX (by rw[hl];rw[GQ]at og;simpa using og) FN (by rw[hl];exact hs)
  refine⟨v',w',c',p1,⟨p2.mem,?_,p2.fr,p2.fh,p2.nS⟩,p3,p4⟩
  have g':jf (c.kill [r]) w (Ctx.kill {c with top:=w.heap.size} [r]) w:=⟨rfl,hm.top,λb hb=>⟨hb,rfl⟩,λr row hr=>⟨row,hr,rfl,rfl,rfl,rfl,rfl,Iff.rfl,λnv arr ha=>⟨arr,ha,rfl⟩⟩⟩
  exact g'.trans p2.bz
 ·obtain⟨MS,jx,_,IY⟩:=hm.real q1 hV
  simp only at h3 h4 hv jx
  rw[h3]at jx;cases jx
  simp only[aN,if_false]at IY
  have hE1:iu c.I w (es.take n).l cur 0 sz:=by rw[ak.iT];exact LF IY
  rw[hv,show((0:Nat)*sz)=0 from Nat.zero_mul _]
  have:=Zeo (ty:=ty) (es:=es.take n) (cap:=cap) ht oZ hx hi hz fp uh ES hm hb hR h0 oX og q1 rfl hV (by rw[hln];exact h1) h2 h3 (by rw[<-h4,aX]) hE1 hs
  rw[hln]at this
  exact this
end
theorem Z9{E:ak}(h:H3 E=true):E.l=[]:=by
 unfold H3 at h
 split at h
 ·rfl
 ·cases h
theorem Zkj{P:Program}{T:ff}(hT:jt P T){M:Nat}{t tx ty:TypeId}{x y:D}{R:Rows}{K:List Nat->D->Rows->Prop}(h:LG T M t tx x y R K):
    ∃ ks R',K ks (.all R.length) R'/\(∀k,bq k ks=true->M<=k)/\ ∀c w vx vy,Mem c w->c.base<=w.heap.size->(∀r,c.R r=R.getD r none)->Rep c w x vx->Rep c w y vy->
      ∃v' w' c',(Builtin.append_ #[t,tx] ty #[vx,vy]).run P w= .ok v' w'/\jA ks c w c' w'/\(∀r,c'.R r=R'.getD r none)/\Rep c' w' (.all R.length) v':=by
  unfold LG at h
  split at h
  . rename_i e iz _ _ _ _ _ ht
    have hk:=mv hT ht
    simp only at hk
    split at h
    . rename_i ke sz ly cs z q kx _ _ _ _ _ he htx
      obtain⟨i,u,hi,hu,IZ,hs,hb,hc,hzero⟩:=I0 hT he
      have Tq:=mv hT htx
      split at h
      . rename_i sy ys jR
        simp only[c7,aE,Bool.or_eq_true]at h
        obtain⟨⟨⟨⟨h0,h1⟩,h2,h3⟩,h4,h5⟩,h⟩:=h
        have h0:0<sz:=lE h0
        have oX:0<ly:=lE h4
        have h2:=bE h2
        have h5:sy=sz\/ys.l=[]:=h5.imp bE Z9
        have wu:u.cells.size=sz:=by have:=O6 IZ;simp at this;omega
        obtain⟨ux,oZ,nh⟩: ∃ux,P.underlying tx=some ux/\ ∀k,ux≠ .int k:=by
          unfold Cg at jR
          split at jR
          . simp only at Tq;exact⟨_,Tq.1,λk e=>by cases e⟩
          . simp only at Tq;exact⟨_,Tq,λk e=>by cases e⟩
          . cases jR
        have wv: ∀(c:Ctx) (w:World) (vy:Value),Mem c w->(∀r,c.R r=R.getD r none)->Rep c w y vy->Src P c w vy ys.l sz:=λc w vy hm hR hy=>y3 h0 jR h5 hm (λr row ao g1 g2=>by rw[hR,g2]at g1;exact(Option.some.inj g1).symm) hy
        cases x<;>simp only at h
        case dq=>
          simp only[Ci,c7,decide_eq_true_eq,mO,<-ak.ik]at h
          refine⟨_,_,h.2,λk hk=>by simp [bq]at hk,λc w vx vy hm s7 hR hx hy=> ?_⟩
          rw[show vx=_ from hx]
          have hl:((ak.gen []).app ys).l=ys.l:=by rw[ak.jS];rfl
          exact append_empty (ks:=[]) (ys:=(ak.gen []).app ys) hk.1 oZ nh hi hu hs hb wu hm s7 hR h0 oX (by rw[hl];have:=h.1;simpa [ak.l] using this) MG (by rw[hl];exact wv c w vy hm hR hy)
        case emp=>
          simp only[Ci,c7,decide_eq_true_eq,mO,<-ak.ik]at h
          refine⟨_,_,h.2,λk hk=>by simp [bq]at hk,λc w vx vy hm s7 hR hx hy=> ?_⟩
          obtain⟨a,hx,Ad⟩:=hx
          rw[hx]
          have hl:((ak.gen []).app ys).l=ys.l:=by rw[ak.jS];rfl
          exact append_empty (ks:=[]) (ys:=(ak.gen []).app ys) hk.1 oZ nh hi hu hs hb wu hm s7 hR h0 oX (by rw[hl];have:=h.1;simpa [ak.l] using this) Ad (by rw[hl];exact wv c w vy hm hR hy)
        case all r=>
          split at h
          . rename_i jP s es hr
            simp only[aE,Ci,c7,decide_eq_true_eq,mO,<-ak.ik]at h
            obtain⟨⟨⟨g1,g2⟩,g3⟩,g5,g6⟩:=h
            have g1:=bE g1
            have g2:=bE g2
            subst g1;subst g2
            refine⟨_,_,g6,λk hk=> ?_,λc w vx vy hm s7 hR hx hy=> ?_⟩
            . have:=nV.1 hk
              simp at this
              rw[this];exact lE g3
            . exact Znl hk.1 oZ nh hi hu hs hb wu hm s7 hR h0 oX g5 hr hx (wv c w vy hm hR hy)
          . exact h.elim
        case own r o n=>
          split at h
          . rename_i jP s es hr
            simp only[aE,Ci,c7,decide_eq_true_eq,mO,<-ak.ik]at h
            obtain⟨⟨⟨g1,g2⟩,g3,g4⟩,g5,g6⟩:=h
            have g1:=bE g1
            have g2:=bE g2
            have g4:=bE g4
            subst g1;subst g2;subst g4
            refine⟨_,_,g6,λk hk=> ?_,λc w vx vy hm s7 hR hx hy=> ?_⟩
            . have:=nV.1 hk
              simp at this
              rw[this];exact lE g3
            . exact Zmn hk.1 oZ nh hi hu hs hb wu hm s7 hR h0 oX g5 hr hx (wv c w vy hm hR hy)
          . exact h.elim
      . exact h.elim
    . exact h.elim
  . exact h.elim
theorem Z08{c:Ctx}{w:World}{d:D}{v:Value}(gg:∀f cs,d≠.gb f cs)(h:cu c w d v):cu {c with base:=0} w d v:=by
 cases d with
 |sl sz es fr=>
  obtain⟨a,cap,hv,hc,ia⟩:=h
  refine⟨a,cap,hv,hc,?_⟩
  rcases ia with ia|⟨b,off,arr,ty,fz,ha,hI,hf,hh,hE⟩
  ·exact .inl ia
  ·exact .inr ⟨b,off,arr,ty,fz,ha,hI,λ_=>Nat.zero_le _,hh,hE⟩
 |gb f cs=>exact absurd rfl (gg f cs)
 |_=>exact h
theorem XO{c:Ctx}{w:World}{d:D}{v:Value}(h:cu c w d v):cu {c with base:=0} w d v:=by
 by_cases e:∃g cs,d=.gb g cs
 ·obtain⟨g,cs,rfl⟩:=e
  obtain⟨us,hv,hu⟩:=h
  exact⟨us,hv,XG (c:=c) (w:=w) (c':={c with base:=0}) (w':=w) (S:=λ_=>True) (λd v q1 _ q2=>Z08 q1 q2) (λ_ hb=>⟨hb,rfl⟩) (λ_ _=>trivial) hu⟩
 ·exact Z08 (λf cs e'=>e ⟨f,cs,e'⟩) h
theorem Z1f{c:Ctx}{w:World}:∀{ds:List D} {vs:List Value},jh c w ds vs->jh {c with base:=0} w ds vs
 |[],[],_=>trivial
 |_::_,_::_,h=>⟨XO h.1,Z1f h.2⟩
 |[],_::_,h=>h.elim
 |_::_,[],h=>h.elim
theorem Z8a{c:Ctx}{w:World}{d:D}{v:Value}(h:VRep c w d v):VRep {c with base:=0} w d v:=by
 cases d with
 |agg cs=>obtain⟨vs,hv,hr⟩:=h;exact⟨vs,hv,Z1f hr⟩
 |_=>exact VRep.Ed (XO (VRep.toC (λcs e=>by cases e) h))
theorem XP{c:Ctx}{w:World}:∀{ds:List D} {vs:List Value},jY c w ds vs->jY {c with base:=0} w ds vs
 |[],[],_=>trivial
 |_::_,_::_,h=>⟨Z8a h.1,XP h.2⟩
 |[],_::_,h=>h.elim
 |_::_,[],h=>h.elim
theorem Qwu{c:Ctx}{w:World}:∀{ds:List D} {arr:Array Value} {off:Nat},kA c w ds arr off->kA {c with base:=0} w ds arr off
 |[],_,_,_=>trivial
 |_::_,_,_,⟨⟨v,hv,h1⟩,h2⟩=>⟨⟨v,hv,XO h1⟩,Qwu h2⟩
theorem Zct{c:Ctx}{w:World}(h:Mem c w):Mem {c with base:=0} w:=by
 refine⟨λr row hr=>?_,h.inj,h.fh,h.top,h.kC⟩
 rcases h.row r row hr with h0|⟨h0,arr,ha,hs,hx⟩
 ·exact .inl h0
 ·refine .inr ⟨h0,arr,ha,hs,?_⟩
  split
  ·rename_i hb
   rw[if_pos hb]at hx
   obtain⟨e,k1,k2,k3,k4⟩:=hx
   exact⟨e,k1,k2,k3,Qwu k4⟩
  ·rename_i hb
   rw[if_neg hb]at hx
   exact hx
theorem Qxh{f:Nat->Nat}:∀{ids:List Nat} {rows:List Row} {R:Rows},ids.Nodup->ids.length<=rows.length->(∀r∈ids,r<R.length)->
 (ET f ids rows R).length=R.length/\(∀(i r:Nat),ids[i]?=some r->∃row,rows[i]?=some row/\(ET f ids rows R).getD r none=some (row.jb f false))/\∀r,r∉ids->(ET f ids rows R).getD r none=R.getD r none
 |[],rows,R,_,_,_=>by
  have:ET f [] rows R=R:=by cases rows<;>rfl
  rw[this]
  exact⟨rfl,λi r h=>by simp at h,λ_ _=>rfl⟩
 |r::ids,[],R,_,hl,_=>by simp at hl
 |r ::ids,row::rows,R,kP,hl,cj=>by
  obtain⟨HZ,I1⟩:=List.nodup_cons.1 kP
  obtain⟨g1,g2,g3⟩:=Qxh (f:=f) (ids:=ids) (rows:=rows) (R:=R.set r (some (row.jb f false))) I1 (by simpa using hl) (λq hq=>by simpa using cj q (by simp[hq]))
  have hr:=cj r (by simp)
  have XQ:(R.set r (some (row.jb f false))).getD r none=some (row.jb f false):=by simp[aK,hr]
  have gg:∀q,q≠r->(R.set r (some (row.jb f false))).getD q none=R.getD q none:=λq hq=>by simp[aK,List.getElem?_set_ne (Ne.symm hq)]
  simp only[ET]
  refine⟨by simpa using g1,λi q hq=>?_,λq hq=>?_⟩
  ·cases i with
   |zero=>
    simp at hq;subst hq
    exact⟨row,rfl,by rw[g3 _ HZ];exact XQ⟩
   |succ i=>simpa using g2 i q (by simpa using hq)
  ·have h1:q≠r:=λe=>hq (by simp[e])
   rw[g3 q (λe=>hq (by simp[e])),gg q h1]
def Ctx.dx(c:Ctx)(c':Ctx)(kl n0:Nat)(R2:Rows):Ctx:=
 { ρ:=λr=>if n0<=r/\r<R2.length then c'.ρ (kl+(r-n0)) else c.ρ r,
   R:=λr=>R2.getD r none,
   V:=λr=>if n0<=r/\r<R2.length then c'.V (kl+(r-n0)) else c.V r,
   I:=c'.I,base:=c.base,top:=c'.top,X:=c.X}
theorem LH{i k n:Nat}:bq i (bK k n)=true↔k<=i/\i<k+n:=by
 rw[nV,List.mem_range'_1]
theorem Z79{c c':Ctx}{w w':World}{R:Rows}{ids:List Nat}{k:Nat}{dw ai:List Row}(hm:Mem c w)(hR:∀r,c.R r=R.getD r none)
 (kP:ids.Nodup) (cv:AT R (λr=>pos r ids 0) ids=some dw) (hle:(ids.take k).length<=ai.length)
 (hx:jA (bK k (dw.length-k)) {c.pass w ids dw false with base:=0} w c' w') (jQ:∀i,c'.R i=ai[i]?)
 {R2:Rows} (ui:R2=ET (bk (ids.take k) R.length) (ids.take k) ai (rA (ids.drop k) R 0)++Qu (bk (ids.take k) R.length) (ai.drop (ids.take k).length)):
 DK (λ_=>True) (bk (ids.take k) R.length) false c' (c.dx c' (ids.take k).length R.length R2)/\
 jA (ids.drop k) c w (c.dx c' (ids.take k).length R.length R2) w':=by
 obtain⟨gp,Aq⟩:=EU cv
 generalize hf:bk (ids.take k) R.length=f at*
 generalize XR:(ids.take k).length=kl at*
 have nF:∀r row,R.getD r none=some row->c.R r=some row:=λr row e=>by rw[hR];exact e
 have cj:∀r∈ids,r<R.length:=λr hr=>by
  obtain⟨row,h1,_⟩:=Aq _ r (AU hr)
  by_cases hl:r<R.length
  ·exact hl
  ·rw[aK,aM (by omega)]at h1;cases h1
 have htd:ids.take k++ids.drop k=ids:=List.take_append_drop k ids
 have XS:(ids.take k).Nodup:=by rw[<-htd]at kP;exact(List.nodup_append.1 kP).1
 have O7:∀r,r∈ids.take k->r∈ids.drop k->False:=λr h1 h2=>by
  rw[<-htd]at kP
  exact(List.nodup_append.1 kP).2.2 r h1 r h2 rfl
 have Jam:kl=min k ids.length:=by rw[<-XR];simp
 have Cj:∀i,i<kl->(ids.take k)[i]?=ids[i]? :=λi hi=>by rw[aU,if_pos (by omega)]
 have su:∀i r,ids[i]?=some r->kl<=i->r∈ids.drop k:=λi r hi pk=>by
  have mq:=(List.getElem?_eq_some_iff.1 hi).1
  have:(ids.drop k)[i-k]?=some r:=by rw[fU,show k+(i-k)=i by omega];exact hi
  exact fX this
 obtain⟨k1,k2,k3⟩:=Qxh (f:=f) (ids:=ids.take k) (rows:=ai) (R:=rA (ids.drop k) R 0) XS (by rw[XR];exact hle) (λr hr=>by rw[IW];exact cj r (cV hr))
 rw[IW]at k1
 have uQ:R2.length=R.length+(ai.length-kl):=by rw[ui];simp[k1,Qu]
 have O8:∀r,r<R.length->R2.getD r none=(ET f (ids.take k) ai (rA (ids.drop k) R 0)).getD r none:=λr hr=>by
  rw[ui,aK,aK,aZ (by omega)]
 have XT:∀i,kl<=i->i<ai.length->R2.getD (R.length+(i-kl)) none=ai[i]?.map λrow=>row.jb f false:=λi h1 h2=>by
  have:∀(l:List Row) (j:Nat),(Qu f l)[j]?=l[j]?.map λrow=>some (row.jb f false):=λl j=>by simp[Qu]
  rw[ui,aK,bB (by omega),this,k1,show R.length+(i-kl)-R.length=i-kl by omega,fU,show kl+(i-kl)=i by omega]
  rw[cG h2];rfl
 have ju:∀i r ao,i<kl->ids[i]?=some r->c'.R i=some ao->∃row,c.R r=some row/\ao.box=row.box/\ao.ty=row.ty/\ao.sz=row.sz/\ao.es.l.length=row.es.l.length/\c'.ρ i=c.ρ r/\(c'.V i↔c.V r)/\r<R.length/\R2.getD r none=some (ao.jb f false)/\f i=r/\
  (¬c.V r->∀arr,w.heap[c.ρ r]?=some (.cells arr row.ty (0,0))->∃iJ,w'.heap[c.ρ r]?=some (.cells iJ row.ty (0,0))/\iJ.size=arr.size):=by
  intro i r ao nK hi jg
  obtain⟨row,h1,h2⟩:=Aq i r hi
  have kb:=fX hi
  have h3:=nF r row h1
  have Cl:(({c.pass w ids dw false with base:=0}:Ctx).kill (bK k (dw.length-k))).R i=some ((row.jb (λr=>pos r ids 0) false).kill (bK k (dw.length-k))):=by
   simp only[Ctx.kill,Ctx.pass]
   rw[if_neg (λe=>by have:=LH.1 e;omega),h2];rfl
  obtain⟨ob,g1,g2,g3,g4,g5,g6,gV,g7⟩:=hx.bz.R i _ Cl
  rw[jg]at g1;cases g1
  obtain⟨s1,s2,s3,s4⟩:=I2 (λr=>pos r ids 0) false row
  obtain⟨t1,t2,t3,t4⟩:=uT (bK k (dw.length-k)) (row.jb (λr=>pos r ids 0) false)
  have il:=(Cj i nK).trans hi
  obtain⟨kM,q1,q2⟩:=k2 i r il
  rw[jQ,q1]at jg;cases jg
  refine⟨row,h3,g2.trans (t1.trans s1),g3.trans (t2.trans s2),g4.trans (t3.trans s3),g5.trans (t4.trans s4),by simpa[Ctx.kill,Ctx.pass,hi]using g6,by simpa[Ctx.kill,Ctx.pass,hi]using gV,cj r kb,by rw[O8 r (cj r kb)];exact q2,by rw[<-hf];simp[bk,il],λnv arr ha=>?_⟩
  have:=g7 (by simpa[Ctx.kill,Ctx.pass,hi]using nv) arr (by simpa[Ctx.kill,Ctx.pass,hi,s2,t2]using ha)
  simpa[Ctx.kill,Ctx.pass,hi,s2,t2]using this
 have F1:∀i ao,c'.R i=some ao->¬c'.V i->(∃j s row,ids[j]?=some s/\c.R s=some row/\¬c.V s/\c'.ρ i=c.ρ s/\(i<kl->j=i)/\(kl<=i->s∈ids.drop k))\/w.heap.size<=c'.ρ i:=by
  intro i ao h1 nv
  by_cases nK:i<kl
  ·have il:ids[i]?=some ids[i]:=cG (by omega)
   obtain⟨row,g1,g2,g3,g4,g5,g6,g7,_⟩:=ju i _ ao nK il h1
   exact .inl ⟨i,_,row,il,g1,λe=>nv (g7.2 e),g6,λ_=>rfl,λh=>by omega⟩
  ·rcases hx.nS i ao h1 nv with⟨⟨x,nm⟩,v,e⟩|⟨s,x,hs,nm,v,e⟩|e
   ·have Iv:dw[i]?=some x:=nm
    have GS:=(List.getElem?_eq_some_iff.1 Iv).1
    have il:ids[i]?=some ids[i]:=cG (by omega)
    obtain⟨row,g1,g2⟩:=Aq i _ il
    exact .inl ⟨i,_,row,il,nF _ _ g1,by simpa[Ctx.pass,il]using v,by simpa[Ctx.pass,il]using e,λh=>by omega,λ_=>su i _ il (by omega)⟩
   ·have Iv:dw[s]?=some x:=nm
    have GS:=(List.getElem?_eq_some_iff.1 Iv).1
    have il:ids[s]?=some ids[s]:=cG (by omega)
    obtain⟨row,g1,g2⟩:=Aq s _ il
    have hsk:=(LH.1 hs).1
    exact .inl ⟨s,_,row,il,nF _ _ g1,by simpa[Ctx.pass,il]using v,by simpa[Ctx.pass,il]using e,λh=>by omega,λ_=>su s _ il (by omega)⟩
   ·exact .inr e
 have new:∀i ao,kl<=i->c'.R i=some ao->i<ai.length/\R2.getD (R.length+(i-kl)) none=some (ao.jb f false)/\f i=R.length+(i-kl):=by
  intro i ao hi jg
  have h1:ai[i]?=some ao:=by rw[<-jQ];exact jg
  have h2:=(List.getElem?_eq_some_iff.1 h1).1
  refine⟨h2,by rw[XT i hi h2,h1];rfl,?_⟩
  rw[<-hf]
  simp only[bk]
  rw[aM (by omega),XR]
 have Cm:DK (λ_=>True) f false c' (c.dx c' kl R.length R2):=by
  refine⟨λi ao _ jg=>?_,(λh=>by cases h),aO _⟩
  obtain⟨s1,s2,s3,s4⟩:=I2 f false ao
  by_cases hi:i<kl
  ·have il:ids[i]?=some ids[i]:=cG (by omega)
   obtain⟨row,g1,g2,g3,g4,g5,g6,g7,g8,g9,g10,_⟩:=ju i _ ao hi il jg
   rw[g10]
   exact⟨_,g9,s1,s2,s3,s4,by simp only[Ctx.dx];rw[if_neg (by omega),g6],by simp only[Ctx.dx];rw[if_neg (by omega)];exact g7.symm⟩
  ·obtain⟨h1,h2,h3⟩:=new i ao (by omega) jg
   rw[h3]
   have hc:R.length<=R.length+(i-kl)/\R.length+(i-kl)<R2.length:=by omega
   have he:kl+(R.length+(i-kl)-R.length)=i:=by omega
   exact⟨_,h2,s1,s2,s3,s4,by simp only[Ctx.dx];rw[if_pos hc,he],by simp only[Ctx.dx];rw[if_pos hc,he]⟩
 have BB:Fr (λb=>∃r x,c.R r=some x/\¬c.V r/\r∈ids/\c.ρ r=b) w w':=hx.fr.mono λb _ ⟨i,x,h1,h2,h3⟩=>by
  have oK:dw[i]?=some x:=h1
  have hi:i<ids.length:=by have:=(List.getElem?_eq_some_iff.1 oK).1;omega
  have il:ids[i]?=some ids[i]:=cG hi
  obtain⟨row,g1,g2⟩:=Aq i _ il
  exact⟨_,row,nF _ row g1,by simpa[Ctx.pass,il]using h2,fX il,by simpa[Ctx.pass,il]using h3⟩
 have rest:∀r,r∉ids->r<R.length->R2.getD r none=(R.getD r none).map (Row.kill (ids.drop k)):=λr h1 h2=>by
  rw[O8 r h2,k3 r (λe=>h1 (cV e)),O5,aX,if_neg (λe=>h1 (cW (nV.1 e)))]
 have gone:∀r,r∈ids.drop k->R2.getD r none=none:=λr h=>by
  rw[O8 r (cj r (cW h)),k3 r (λe=>O7 r e h),O5,aX,if_pos (nV.2 h)]
 have inv:∀r x,(c.dx c' kl R.length R2).R r=some x->(∃i ao,c'.R i=some ao/\x=ao.jb f false/\(c.dx c' kl R.length R2).ρ r=c'.ρ i/\((c.dx c' kl R.length R2).V r↔c'.V i)/\(i<kl/\ids[i]?=some r/\(c.dx c' kl R.length R2).ρ r=c.ρ r/\((c.dx c' kl R.length R2).V r↔c.V r)\/R.length<=r/\kl<=i/\r=R.length+(i-kl)))\/
  (∃row,c.R r=some row/\x=row.kill (ids.drop k)/\r∉ids/\(c.dx c' kl R.length R2).ρ r=c.ρ r/\((c.dx c' kl R.length R2).V r↔c.V r)):=by
  intro r x jz
  have jz:R2.getD r none=some x:=jz
  by_cases kb:r∈ids
  ·by_cases hg:r∈ids.drop k
   ·rw[gone r hg]at jz;cases jz
   ·left
    have hp:=AU kb
    have AV:pos r ids 0<kl:=by
     by_cases h:pos r ids 0<kl
     ·exact h
     ·exact(hg (su _ r hp (by omega))).elim
    obtain⟨kM,q1,q2⟩:=k2 _ r ((Cj _ AV).trans hp)
    have pR:c'.R (pos r ids 0)=some kM:=by rw[jQ];exact q1
    obtain⟨row,g1,g2,g3,g4,g5,g6,g7,g8,g9,g10,_⟩:=ju _ r kM AV hp pR
    rw[g9]at jz
    cases jz
    have e1:(c.dx c' kl R.length R2).ρ r=c.ρ r:=by simp only[Ctx.dx];rw[if_neg (by omega)]
    have e2:(c.dx c' kl R.length R2).V r↔c.V r:=by simp only[Ctx.dx];rw[if_neg (by omega)]
    exact⟨_,kM,pR,rfl,by rw[e1,g6],by rw[e2,g7],.inl ⟨AV,hp,e1,e2⟩⟩
  ·by_cases hc:R.length<=r
   ·left
    have Ts:r<R2.length:=by
     by_cases h:r<R2.length
     ·exact h
     ·rw[aK,aM (by omega)]at jz;cases jz
    have hi:kl+(r-R.length)<ai.length:=by omega
    have pR:c'.R (kl+(r-R.length))=some ai[kl+(r-R.length)]:=by rw[jQ];exact cG hi
    obtain⟨h1,h2,h3⟩:=new _ _ (by omega) pR
    rw[show R.length+(kl+(r-R.length)-kl)=r by omega]at h2
    rw[h2]at jz
    cases jz
    exact⟨_,_,pR,rfl,by simp only[Ctx.dx];rw[if_pos ⟨hc,Ts⟩],by simp only[Ctx.dx];rw[if_pos ⟨hc,Ts⟩],.inr ⟨hc,by omega,by omega⟩⟩
   ·right
    rw[rest r kb (by omega)]at jz
    simp only[fR]at jz
    obtain⟨row,h1,h2⟩:=jz
    exact⟨row,nF r row h1,h2.symm,kb,by simp only[Ctx.dx];rw[if_neg (by omega)],by simp only[Ctx.dx];rw[if_neg (by omega)]⟩
 have apart:∀r row i ao,c.R r=some row->r∉ids->¬c.V r->c'.R i=some ao->¬c'.V i->c'.ρ i≠c.ρ r:=λr row i ao h1 h2 h3 h4 h5 e=>by
  rcases F1 i ao h4 h5 with⟨j,s,jr,q1,q2,q3,q4,_⟩|q
  ·have:=hm.inj s r jr row q2 h1 q3 h3 (by rw[<-q4,e])
   subst this
   exact h2 (fX q1)
  ·have:=hm.lt h1 h3;omega
 have pA:jf (c.kill (ids.drop k)) w (c.dx c' kl R.length R2) w':=by
  refine⟨rfl,hx.bz.top,λb iq=>?_,λr x hr=>?_⟩
  ·have h1:(({c.pass w ids dw false with base:=0}:Ctx).kill (bK k (dw.length-k))).I b:=.inl iq
   exact⟨(hx.bz.I b h1).1,(hx.bz.I b h1).2⟩
  ·obtain⟨Tt,row,cb,rfl⟩:=nT hr
   have Tt:r∉ids.drop k:=λe=>by rw[nV.2 e]at Tt;cases Tt
   obtain⟨u1,u2,u3,u4⟩:=uT (ids.drop k) row
   by_cases kb:r∈ids
   ·have hp:=AU kb
    have AV:pos r ids 0<kl:=by
     by_cases h:pos r ids 0<kl
     ·exact h
     ·exact(Tt (su _ r hp (by omega))).elim
    obtain⟨kM,q1,q2⟩:=k2 _ r ((Cj _ AV).trans hp)
    have pR:c'.R (pos r ids 0)=some kM:=by rw[jQ];exact q1
    obtain⟨jT,g1,g2,g3,g4,g5,g6,g7,g8,g9,g10,g11⟩:=ju _ r kM AV hp pR
    rw[cb]at g1;cases g1
    obtain⟨s1,s2,s3,s4⟩:=I2 f false kM
    refine⟨_,g9,s1.trans (g2.trans u1.symm),s2.trans (g3.trans u2.symm),s3.trans (g4.trans u3.symm),s4.trans (g5.trans u4.symm),by simp only[Ctx.dx];rw[if_neg (by omega)];rfl,by simp only[Ctx.dx];rw[if_neg (by omega)];rfl,λnv arr ha=>?_⟩
    rw[u2]at ha⊢
    exact g11 nv arr ha
   ·have pT:r<R.length:=by
     by_cases h:r<R.length
     ·exact h
     ·rw[hR,aK,aM (by omega)]at cb;cases cb
    refine⟨row.kill (ids.drop k),?_,rfl,rfl,rfl,rfl,by simp only[Ctx.dx];rw[if_neg (by omega)];rfl,by simp only[Ctx.dx];rw[if_neg (by omega)];rfl,λnv arr ha=>⟨arr,?_,rfl⟩⟩
    ·show R2.getD r none=_
     rw[rest r kb pT,<-hR,cb];rfl
    ·have nv:¬c.V r:=nv
     show w'.heap[c.ρ r]?=_
     rw[BB.heap _ (hm.lt cb nv) fun⟨s,x,h1,h2,h3,h4⟩=>kb (by rw[<-hm.inj s r x row h1 cb h2 nv h4];exact h3)]
     exact ha
 refine⟨Cm,⟨λr x jz=>?_,λr s x y hr hs v1 v2 he=>?_,λb iq=>⟨(hx.mem.fh b iq).1,λr x hr v=>?_⟩,hx.mem.top,hx.mem.kC⟩,pA,BB.mono λb _ ⟨r,x,h1,h2,_,h4⟩=>⟨r,x,h1,h2,h4⟩,λb iq=>?_,λr x hr v=>?_⟩
 ·rcases inv r x jz with⟨i,ao,h1,rfl,h3,h4,_⟩|⟨row,h1,rfl,h2,h3,h4⟩
  ·exact XU Cm (flat:=False) (.inl λb hb=>hb) h3 h4 (λ_ _ _ _ _=>trivial) (λe=>e.elim) (hx.mem.row i ao h1)
  ·have hk:=Zlj (ks:=ids.drop k) (hm.row r row h1)
   exact tC pA h3 h4 (λnv=>BB.heap _ (hm.lt h1 nv) fun⟨s,x',g1,g2,g3,g4⟩=>h2 (by rw[<-hm.inj s r x' row g1 h1 g2 nv g4];exact g3)) hk
 ·rcases inv r x hr with⟨i,x',h1,_,h3,h4,h5⟩|⟨row,h1,_,h2,h3,h4⟩<;>rcases inv s y hs with⟨j,y',g1,_,g3,g4,g5⟩|⟨jr,g1,_,g2,g3,g4⟩
  ·have:i=j:=hx.mem.inj i j x' y' h1 g1 (λe=>v1 (h4.2 e)) (λe=>v2 (g4.2 e)) (by rw[<-h3,<-g3];exact he)
   subst this
   rcases h5 with⟨q0,q1,_⟩|⟨_,q1,q2⟩<;>rcases g5 with⟨p0,p1,_⟩|⟨_,p1,p2⟩
   ·rw[q1]at p1;exact Option.some.inj p1
   ·omega
   ·omega
   ·omega
  ·exact(apart s jr i x' g1 g2 (λe=>v2 (g4.2 e)) h1 (λe=>v1 (h4.2 e)) (by rw[<-h3,<-g3];exact he)).elim
  ·exact(apart r row j y' h1 h2 (λe=>v1 (h4.2 e)) g1 (λe=>v2 (g4.2 e)) (by rw[<-h3,<-g3];exact he.symm)).elim
  ·exact hm.inj r s row jr h1 g1 (λe=>v1 (h4.2 e)) (λe=>v2 (g4.2 e)) (by rw[<-h3,<-g3];exact he)
 ·rcases inv r x hr with⟨i,x',h1,_,h3,h4,h5⟩|⟨row,h1,_,h2,h3,h4⟩
  ·rw[h3];exact(hx.mem.fh b iq).2 i x' h1 (λe=>v (h4.2 e))
  ·have nv:¬c.V r:=λe=>v (h4.2 e)
   rw[h3]
   rcases hx.fh b iq with q|⟨s,z,q1,q2,q3,q4⟩|q
   ·rcases q with q|⟨q,_⟩
    ·exact(hm.fh b q).2 r row h1 nv
    ·cases q
   ·intro e
    have hz:dw[s]?=some z:=q2
    have GS:=(List.getElem?_eq_some_iff.1 hz).1
    have il:ids[s]?=some ids[s]:=cG (by omega)
    obtain⟨jr,g1,g2⟩:=Aq s _ il
    have:=hm.inj _ r jr row (nF _ _ g1) h1 (by simpa[Ctx.pass,il]using q3) nv (by rw[e];simpa[Ctx.pass,il]using q4)
    exact h2 (by rw[<-this];exact fX il)
   ·have:=hm.lt h1 nv;omega
 ·rcases hx.fh b iq with q|⟨s,z,q1,q2,q3,q4⟩|q
  ·rcases q with q|⟨q,_⟩
   ·exact .inl q
   ·cases q
  ·have hz:dw[s]?=some z:=q2
   have GS:=(List.getElem?_eq_some_iff.1 hz).1
   have il:ids[s]?=some ids[s]:=cG (by omega)
   obtain⟨jr,g1,g2⟩:=Aq s _ il
   have hsk:=(LH.1 q1).1
   exact .inr (.inl ⟨_,jr,nV.2 (su s _ il (by omega)),nF _ _ g1,by simpa[Ctx.pass,il]using q3,by simpa[Ctx.pass,il]using q4⟩)
  ·exact .inr (.inr q)
 ·rcases inv r x hr with⟨i,x',h1,_,h3,h4,h5⟩|⟨row,h1,_,h2,h3,h4⟩
  ·rcases h5 with⟨q0,q1,q2,q3⟩|⟨q0,q1,q2⟩
   ·obtain⟨row,g1,_⟩:=ju i r x' q0 q1 h1
    exact .inl ⟨⟨row,g1⟩,λe=>v (q3.2 e),q2⟩
   ·rcases F1 i x' h1 (λe=>v (h4.2 e))with⟨j,s,jr,p1,p2,p3,p4,_,p5⟩|p
    ·exact .inr (.inl ⟨s,jr,nV.2 (p5 q1),p2,p3,by rw[h3];exact p4⟩)
    ·exact .inr (.inr (by rw[h3];exact p))
  ·exact .inl ⟨⟨row,h1⟩,λe=>v (h4.2 e),h3⟩
def GU(P:Program)(f:FuncId)(args:List Operand)(ev:Operand->D)(R:Rows)(ks:List Nat)(val:D)(R':Rows):Prop:=
 ∀ (c:Ctx) (w:World) (ρ:Operand->Value),Mem c w->c.base<=w.heap.size->(∀r,c.R r=R.getD r none)->(∀y∈args,Rep c w (ev y) (ρ y))->
  ∀K':Value->World->Prop,(∀v w' c',jA ks c w c' w'->(∀r,c'.R r=R'.getD r none)->Rep c' w' val v->K' v w')->FU P c.I f (args.map ρ) w λe w'=>∃v,e=.returned v/\K' v w'
theorem Vw{P:Program}{G:List ba}{M:Nat}(hG:jO P G){f:FuncId}{k:Nat}{args:List Operand}{ev:Operand->D}{R:Rows}{K:List Nat->D->Rows->Prop}
 (lz:oJ G f=some k) (h:HJ G M f k (args.map ev) R K):∃ks val R' x,K ks val R'/\oA G f=some x/\(x.refs≠[])/\(∀j,bq j ks=true->M<=j)/\GU P f args ev R ks val R':=by
 unfold HJ at h
 split at h
 ·rename_i x hx
  have uU:x.gone=some k:=by simpa[oJ,hx]using lz
  obtain⟨dr,hf⟩:=FE hG hx
  split at h
  ·rename_i az dw has iN
   simp only[c7,aE]at h
   obtain⟨⟨⟨⟨hv,mQ⟩,h1,h2⟩,h3,h4⟩,h⟩:=h
   generalize I3:lX R x.refs (args.map ev)=ids at*
   have uj:=LI.1 h1
   have gp:=LI.1 h2
   have kP:=LJ.1 h3
   have GV:lq x.refs (args.map ev)=[]:=by
    revert hv
    cases lq x.refs (args.map ev)<;>simp
   have hrefs:x.refs≠[]:=λe=>by rw[e]at mQ;simp at mQ
   have main:∀res ai,GW R (ids.take k) (ids.drop k) res ai K->r9 P x.f k az dw res ai->
    ∃ks val R' y,K ks val R'/\oA G f=some y/\(y.refs≠[])/\(∀j,bq j ks=true->M<=j)/\GU P f args ev R ks val R':=by
    intro res ai hK hA
    simp only[GW,c7,D.cf,mO]at hK
    obtain⟨hle,hK⟩:=hK
    have hle:=lE hle
    refine⟨_,_,_,x,hK,hx,hrefs,λj hj=>lE (List.all_eq_true.1 h4 j (nV.1 hj)),λc w ρ hm hb hR eg K' pJ=>?_⟩
    have nF:∀r row,r∈ids->R.getD r none=some row->c.R r=some row:=λr row _ e=>by rw[hR];exact e
    have oI:mf c R:=λr row ao g1 g2=>by rw[hR,g2]at g1;exact(Option.some.inj g1).symm
    have hn:=Tu (len:=false) (w:=w) nF iN
    have ft:=LK (len:=false) (ρ:=ρ) hm oI hn has (λe=>(e GV).elim) (λr hr=>by rw[GV]at hr;cases hr) uj eg
    have lP:=hA _ w _ (Zct (XV (len:=false) hm nF kP gp iN)) rfl (λr=>rfl) (XP ft)
    rw[hf]at lP
    refine lP.mono (λb hb=>.inl hb) (λe w' sw=>?_)
    obtain⟨v,c',he,nh,jQ,kF⟩:=sw
    have:=Z79 (k:=k) hm hR kP iN hle nh jQ rfl
    exact⟨v,he,pJ v w' _ this.2 (λr=>rfl) (XW this.1 (flat:=False) (.inl λb hb=>hb) (λ_=>trivial) (λe=>e.elim) kF)⟩
   split at h
   ·rename_i α v res ai hm
    exact main _ _ (h v rfl) (dr.O9 k uU _ _ _ _ _ _ hm)
   ·rename_i p α v res ai hm
    exact main _ _ (h.2 v rfl) (dr.GX k uU _ _ _ _ _ _ _ hm h.1)
   ·exact h.elim
  ·exact h.elim
 ·exact h.elim
theorem Zlg{P:Program}{G:List ba}{M:Nat}(hG:jO P G){f:FuncId}(hy:f<YB){dst:Option Tmp}{k:Nat}{args:Array Operand}{c9:Array TypeId}{type:TypeId}{pos':String}{after:Array Edge}{guard:Option (Nat×Bool)}{ev:Operand->D}{R:Rows}{K:List Nat->D->Rows->Prop}
 (lz:oJ G f=some k) (h:HJ G M f k (args.toList.map ev) R K):∃ks val R' x,K ks val R'/\oA G f=some x/\(x.refs≠[])/\(∀j,bq j ks=true->M<=j)/\Br P ⟨dst,.call ⟨.value (.func f),args,c9⟩,type,pos',after,guard⟩ ev R ks val R':=by
 obtain⟨ks,val,R',x,h1,h2,h3,h4,h5⟩:=Vw hG lz h
 obtain⟨dr,hf⟩:=FE hG h2
 refine⟨ks,val,R',x,h1,h2,h3,h4,λc w a hm hb hR eg K' Q pJ=>?_⟩
 subst hf
 exact XX dr rfl hy ((h5 c w a.eval hm hb hR (λy hy=>eg y (by simp[Op.operands,Call.operands];exact .inr (by simpa using hy))) (λv w'=>K' (a.put dst v) w') λv w' c'=>pJ v w' c').1 hy)
def Ctx.only(c:Ctx)(ks:List Nat):Ctx:={c with R:=λr=>if bq r ks=true then(match c.R r with|some row=>if row.box=true then none else some row|none=>none)else none}
theorem LM{c:Ctx}{ks:List Nat}{r:Nat}{x:Row}(h:(c.only ks).R r=some x):r∈ks/\c.R r=some x/\x.box=false:=by
 simp only[Ctx.only]at h
 split at h
 ·rename_i hm
  split at h
  ·rename_i row hr
   split at h
   ·cases h
   ·rename_i hb
    cases h
    exact⟨nV.1 hm,hr,by simpa using hb⟩
  ·cases h
 ·cases h
theorem vr{c:Ctx}{ks:List Nat}{r:Nat}{x:Row}(hm:r∈ks)(hr:c.R r=some x)(hb:x.box=false):(c.only ks).R r=some x:=by
 simp[Ctx.only,nV.2 hm,hr,hb]
theorem vP{c:Ctx}{w:World}(hm:Mem c w)(ks:List Nat):Mem (c.only ks) w:=by
 refine⟨λr x hr=>?_,λr s x y hr hs=>?_,λb hb=>⟨(hm.fh b hb).1,λr x hr v=>?_⟩,hm.top,hm.kC⟩
 ·obtain⟨_,h1,h2⟩:=LM hr
  rcases hm.row r x h1 with h|⟨h0,arr,ha,hs,hx⟩
  ·exact .inl h
  ·refine .inr ⟨h0,arr,ha,hs,?_⟩
   rw[if_neg (by rw[h2];simp)]at hx⊢
   exact hx
 ·exact hm.inj r s x y (LM hr).2.1 (LM hs).2.1
 ·exact(hm.fh b hb).2 r x (LM hr).2.1 v
theorem Zdz{c:Ctx}{w:World}{R:Rows}{ks:List Nat}{d d':D}{v:Value}(h:EV R d=some d')(hl:∀r∈nu d,r∈ks)(hr:cu c w d v):cu (c.only ks) w d v:=by
 cases d<;>simp only[EV]at h<;>try(cases h;done)
 case all r=>
  obtain⟨row,g1,g2,g3⟩:=hr
  exact⟨row,vr (hl r (by simp[nu])) g1 g2,g2,g3⟩
 case own r o n=>
  obtain⟨row,g1,g2,g3,g4⟩:=hr
  exact⟨row,vr (hl r (by simp[nu])) g1 g2,g2,g3,g4⟩
 all_goals exact hr
theorem Zgc{c:Ctx}{w:World}{R:Rows}{ks:List Nat}:∀{ds nX:List D} {vs:List Value},I4 R ds=some nX->(∀r∈pB ds,r∈ks)->jh c w ds vs->jh (c.only ks) w ds vs
 |[],_,[],_,_,_=>trivial
 |d ::ds,nX,v::vs,h,hl,hr=>by
  simp only[I4]at h
  split at h
  ·rename_i x xs h1 h2
   exact⟨Zdz h1 (λr e=>hl r (by simp[pB,e])) hr.1,Zgc h2 (λr e=>hl r (by simp[pB,e])) hr.2⟩
  ·cases h
 |[],_,_::_,_,_,h=>h.elim
 |_::_,_,[],_,_,h=>h.elim
theorem qQ{c:Ctx}{w:World}{R:Rows}{ks:List Nat}{d d':D}{v:Value}(h:conv R d=some d')(hl:∀r∈EW d,r∈ks)(hr:Rep c w d v):Rep (c.only ks) w d v:=by
 cases d with
 |agg cs=>
  simp only[conv,fR]at h
  obtain⟨xs,h1,_⟩:=h
  obtain⟨vs,hv,hx⟩:=hr
  exact⟨vs,hv,Zgc h1 hl hx⟩
 |dt ds=>simp[conv,EV]at h
 |dead=>trivial
 |_=>
  simp only[conv]at h
  simp only[Rep,VRep]at hr⊢
  exact Zdz h hl hr
theorem Z7i{R:Rows}{f:Nat->Nat}{ev:Operand->D}:∀{xs:List Operand} {az:List D},sx R f [] (xs.map ev)=some az->∀x∈xs,∃y,conv R (ev x)=some y
 |[],_,_,x,hx=>by simp at hx
 |y ::xs,az,h,x,hx=>by
  simp only[fS,sx]at h
  split at h
  ·rename_i z zs h1 h2
   simp only[cR]at hx
   rcases hx with rfl|hx
   ·exact⟨_,h1⟩
   ·exact Z7i h2 x hx
  ·cases h
theorem Z6d{ev:Operand->D}{r:Nat}:∀{xs:List Operand} {x:Operand},x∈xs->r∈EW (ev x)->r∈lq [] (xs.map ev)
 |y::xs,x,hx,hr=>by
  simp only[fS,lq,bX]
  simp only[cR]at hx
  rcases hx with rfl|hx
  ·exact .inl hr
  ·exact .inr (Z6d hx hr)
theorem Qn{r:Nat}:∀{l ids:List Nat},r∈lh ids l->r∈ids\/r∈l
 |[],ids,h=>.inl h
 |x ::l,ids,h=>by
  simp only[lh]at h
  split at h
  ·rcases Qn h with h|h
   ·exact .inl h
   ·exact .inr (by simp[h])
  ·rcases Qn h with h|h
   ·simp only[bX,List.mem_singleton]at h
    rcases h with h|h
    ·exact .inl h
    ·exact .inr (by simp[h])
   ·exact .inr (by simp[h])
theorem qt{c:Ctx}{w:World}{d:D}{v:Value}(h:Rep c w d v):Rep {c with base:=0} w d v:=by
 cases d with
 |dt ds=>obtain⟨vs,hv,hx⟩:=h;exact⟨vs,hv,XP hx⟩
 |dead=>trivial
 |_=>exact Rep.JX (Z8a (Rep.toV (λds e=>by cases e) (λe=>by cases e) h))
theorem xQ{P:Program}{G:List ba}{M:Nat}(hG:jO P G){dst:Option Tmp}{f:FuncId}{args:Array Operand}{c9:Array TypeId}{type:TypeId}{pos':String}{after:Array Edge}{guard:Option (Nat×Bool)}{ev:Operand->D}{R:Rows}{K:List Nat->D->Rows->Prop}
 (lz:oJ G f=none) (h:Cn G M f (args.toList.map ev) R K):∃ks val R' x,K ks val R'/\oA G f=some x/\(∀j,bq j ks=true->M<=j)/\Br P ⟨dst,.call ⟨.value (.func f),args,c9⟩,type,pos',after,guard⟩ ev R ks val R':=by
 unfold Cn at h
 split at h
 ·rename_i x hx
  have uU:x.gone=none:=by simpa[oJ,hx]using lz
  obtain⟨dr,hf⟩:=FE hG hx
  split at h
  ·rename_i az dw has iN
   simp only[c7,aE]at h
   obtain⟨⟨⟨mQ,wx⟩,h3,uj,h4⟩,h⟩:=h
   have Jan:∀r,r∈lh [] (lq [] (args.toList.map ev))->r∈lq [] (args.toList.map ev):=λr hr=>by
    rcases Qn hr with h|h
    ·cases h
    ·exact h
   generalize I3:lh [] (lq [] (args.toList.map ev))=ids at*
   have kP:=LJ.1 h3
   have uj:=LI.1 uj
   have main :∀res ai,GW R [] ids res ai K->jZ P x.f az [] res ai->
    ∃ks val R' y,K ks val R'/\oA G f=some y/\(∀j,bq j ks=true->M<=j)/\Br P ⟨dst,.call ⟨.value (.func f),args,c9⟩,type,pos',after,guard⟩ ev R ks val R':=by
    intro res ai hK hA
    simp only[GW,c7,D.cf,mO]at hK
    obtain⟨_,hK⟩:=hK
    refine⟨_,_,_,x,hK,hx,λj hj=>lE (List.all_eq_true.1 h4 j (nV.1 hj)),λc w a hm hb hR eg K' Q pJ=>?_⟩
    have oI:mf (c.only ids) R:=λr row ao g1 g2=>by
     have:=(LM g1).2.1
     rw[hR,g2]at this;exact(Option.some.inj this).symm
    have hmo:=vP hm ids
    have hn:=Tu (c:=c.only ids) (R:=R) (ids:=[]) (dw:=[]) (len:=true) (w:=w) (λr row e=>by cases e) rfl
    have XY:∀y∈args.toList,Rep (c.only ids) w (ev y) (a.eval y):=λy hy=>by
     obtain⟨z,hz⟩:=Z7i has y hy
     exact qQ hz (λr hr=>uj r (Z6d hy hr)) (eg y (by simp[Op.operands,Call.operands];exact .inr (by simpa using hy)))
    rw[XZ (λr=>r) (λr=>pos r [] 0)]at has
    have ft:=LK (len:=true) (ρ:=a.eval) hmo oI hn has (λ_=>rfl) (λr _ e=>by cases e) (λr e=>by rw[X0]at e;cases e) XY
    have lP:=hA _ w _ (XV (R:=R) (len:=true) hmo (λr row e=>by cases e) (by simp) (λr e=>by simp[Co]at e) rfl) rfl (λr=>rfl) ft
    refine XX dr hf (dr.real uU) (lP.mono λe w' sw=>?_)
    obtain⟨v,c',he,nh,jQ,kF⟩:=sw
    have FV:∀r x,((c.only ids).pass w [] [] true).R r=some x->False:=λr x h=>by simp[Ctx.pass]at h
    obtain⟨gp,Aq⟩:=EU iN
    have hxK:jA (bK 0 (dw.length-0)) {c.pass w ids dw false with base:=0} w {c' with base:=0} w':=by
     refine⟨Zct nh.mem,⟨rfl,nh.bz.top,λb iq=>?_,λr x hr=>?_⟩,nh.fr.mono λb _ ⟨r,x,h1,_⟩=>(FV r x h1).elim,λb iq=>?_,λr x hr hv=>?_⟩
     ·have:c.I b:=by
       rcases iq with h|⟨h,_⟩
       ·exact h
       ·cases h
      exact⟨(nh.bz.I b (.inl this)).1,(nh.bz.I b (.inl this)).2⟩
     ·obtain⟨h1,row,h2,_⟩:=nT hr
      have Lx:dw[r]?=some row:=h2
      have:=(List.getElem?_eq_some_iff.1 Lx).1
      rw[LH.2 (by omega)]at h1;cases h1
     ·rcases nh.fh b iq with h|h
      ·rcases h with h|⟨_,r,row,g1,g2,g3,_,g5⟩
       ·exact .inl (.inl h)
       ·obtain⟨k1,k2,k3⟩:=LM g1
        have hp:=AU k1
        obtain⟨jr,q1,q2⟩:=Aq _ r hp
        have hl:=(List.getElem?_eq_some_iff.1 q2).1
        exact .inr (.inl ⟨_,_,LH.2 (by omega),q2,by simpa[Ctx.pass,Ctx.only,hp]using g2,by simpa[Ctx.pass,Ctx.only,hp]using g5⟩)
      ·exact .inr (.inr h)
     ·rcases nh.nS r x hr hv with⟨⟨y,h1⟩,_⟩|h
      ·exact(FV r y h1).elim
      ·exact .inr (.inr h)
    have:=Z79 (k:=0) (c':={c' with base:=0}) hm hR kP iN (by simp) hxK jQ rfl
    simp only[List.take_zero,List.drop_zero]at this
    exact⟨v,he,pJ v w' _ this.2 (λr=>rfl) (XW this.1 (flat:=False) (.inl λb hb=>hb) (λ_=>trivial) (λe=>e.elim) (qt kF))⟩
   split at h
   ·rename_i α v res ai hm
    exact main _ _ (h v rfl) (dr.abs uU _ _ _ _ _ _ hm).1
   ·rename_i p α v res ai hm
    exact main _ _ (h.2 v rfl) (dr.lr uU _ _ _ _ _ _ _ hm h.1).1
   ·exact h.elim
  ·exact h.elim
 ·exact h.elim
