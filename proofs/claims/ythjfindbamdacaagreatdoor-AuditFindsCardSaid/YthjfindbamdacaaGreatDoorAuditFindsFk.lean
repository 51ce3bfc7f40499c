import Derived.Test.YthjfindbamdacaaGreatDoorAuditFindsFo
import Derived.Laws.Append
import Derived.Laws.CopyRow
import Derived.Laws.AppendOwn
open List renaming eq_nil_of_length_eq_zero->fP,map_cons->fR,append_assoc->fF,getElem?_take->aU,getElem?_drop->fT,getElem?_toArray->aY,getD->aK,length_take->bD,length_drop->bF,getElem?_append_left->aZ,size_toArray->bA,getElem?_append_right->bB,getElem?_eq_none->aM,take_of_length_le->fK,getElem?_eq_getElem->cG,range'->bK,mem_of_getElem?->fW,mem_of_mem_take->cX,mem_of_mem_drop->cY,mem_cons->cS,mem_append->bX
open Bool renaming false_eq_true->aN
open Option renaming map_eq_some_iff->fQ
open Nat renaming add_zero->bG,succ_mul->aW,mul_le_mul_right->aV,zero_add->aX,mul_comm->fU,le_refl->aO,add_mul->bC,le_trans->bH,le_mul_of_pos_right->fV
open Array renaming ext'->fS
set_option linter.all false
namespace Go.GD
open Go
section
variable {c:Ctx} {w:World} {ks:List Nat}
theorem wh(ks:List Nat)(row:Row):(row.kill ks).box=row.box/\(row.kill ks).ty=row.ty/\(row.kill ks).sz=row.sz/\(row.kill ks).es.l.length=row.es.l.length:=by
 unfold Row.kill;split<;>exact⟨rfl,rfl,rfl,rfl⟩
theorem Qyt:∀{e:List D},(D.kA ks e).length=e.length
 |[]=>rfl
 |d::l=>by simp[D.kA,Qyt (e:=l)]
theorem Z8l{d:D}{v:Value}(gr:∀f cs,d≠.gn f cs)(h:cu c w d v):cu (c.kill ks) w (d.ei ks) v:=by
 have key:∀r row,bw r ks=false->c.R r=some row->(c.kill ks).R r=some (row.kill ks):=λr row hr cb=>by simp[Ctx.kill,hr,cb]
 have h1:=cu.one h
 cases d with
 |all r=>
  simp only[D.ei]
  cases hr:bw r ks with
  |true=>exact h1
  |false=>
   obtain⟨row,g1,g2,g3⟩:=h
   obtain⟨s1,s2,s3,s4⟩:=wh ks row
   exact⟨_,key r row hr g1,s1.trans g2,by rw[s2,s3,s4];exact g3⟩
 |own r o n=>
  simp only[D.ei]
  cases hr:bw r ks with
  |true=>exact h1
  |false=>
   obtain⟨row,g1,g2,g3,g4⟩:=h
   obtain⟨s1,s2,s3,s4⟩:=wh ks row
   exact⟨_,key r row hr g1,s1.trans g2,by rw[s4];exact g3,by rw[s2,s3];exact g4⟩
 |ptr r i off=>
  simp only[D.ei]
  cases hr:bw r ks with
  |true=>exact h1
  |false=>
   obtain⟨row,g1,g2,g3,g4⟩:=h
   obtain⟨s1,s2,s3,s4⟩:=wh ks row
   exact⟨_,key r row hr g1,g2,by rw[s4];exact g3,by rw[s3];exact g4⟩
 |pa r i off len k n=>
  simp only[D.ei]
  cases hr:bw r ks with
  |true=>exact h1
  |false=>
   obtain⟨g0,row,g1,g2,g3,g4⟩:=h
   obtain⟨s1,s2,s3,s4⟩:=wh ks row
   exact⟨g0,_,key r row hr g1,g2,by rw[s4];exact g3,by rw[s3];exact g4⟩
 |c8 r=>
  simp only[D.ei]
  cases hr:bw r ks with
  |true=>exact h1
  |false=>
   rcases h with h|⟨row,g1,g2,g3,g4⟩
   ·exact .inl h
   ·obtain⟨s1,s2,s3,s4⟩:=wh ks row
    exact .inr ⟨_,key r row hr g1,g2,by rw[s4];exact g3,by rw[s3];exact g4⟩
 |gn f cs=>exact absurd rfl (gr f cs)
 |_=>exact h
theorem yu{d:D}(gr:∀f cs,d≠.gn f cs)(h:∀r∈nM d,bw r ks=false):d.ei ks=d:=by
 cases d<;>first|rfl|(simp only[D.ei];rw[h _ (by simp[nM])])|exact absurd rfl (gr _ _)
theorem SH{d:D}{v:Value}(h:cu c w d v):cu (c.kill ks) w (d.ei ks) v:=by
 by_cases e:∃g cs,d=.gn g cs
 ·obtain⟨g,cs,rfl⟩:=e
  have h1:=cu.one h
  simp only[D.ei]
  cases hd:nN (oz cs) ks with
  |false=>exact h1
  |true=>
   obtain⟨us,hv,hu⟩:=h
   exact⟨us,hv,YN (c:=c) (w:=w) (c':=c.kill ks) (w':=w) (S:=λr=>bw r ks=false) (λd v q1 q2 q3=>by have:=Z8l (ks:=ks) q1 q3;rwa [yu q1 q2]at this) (λ_ hb=>⟨hb,rfl⟩) (λr hr=>by
    have:=Uo.1 hd r hr
    cases hm:bw r ks with
    |false=>rfl
    |true=>exact(this (oj.1 hm)).elim) hu⟩
 ·exact Z8l (λf cs e'=>e ⟨f,cs,e'⟩) h
theorem Zfo:∀{ds:List D} {vs:List Value},jm c w ds vs->jm (c.kill ks) w (D.kA ks ds) vs
 |[],[],_=>trivial
 |_::_,_::_,h=>⟨SH h.1,Zfo h.2⟩
 |[],_::_,h=>h.elim
 |_::_,[],h=>h.elim
theorem Zni{d:D}{v:Value}(h:VRep c w d v):VRep (c.kill ks) w (d.kill ks) v:=by
 cases d with
 |agg cs=>obtain⟨vs,hv,hr⟩:=h;exact⟨vs,hv,Zfo hr⟩
 |_=>
  have:=SH (ks:=ks) (VRep.toC (λcs e=>by cases e) h)
  exact VRep.EL this
theorem Zeh:∀{ds:List D} {vs:List Value},kb c w ds vs->kb (c.kill ks) w (D.pL ks ds) vs
 |[],[],_=>trivial
 |_::_,_::_,h=>⟨Zni h.1,Zeh h.2⟩
 |[],_::_,h=>h.elim
 |_::_,[],h=>h.elim
theorem Ws{d:D}{v:Value}(h:Rep c w d v):Rep (c.kill ks) w (d.gq ks) v:=by
 cases d with
 |dt ds=>obtain⟨vs,hv,hr⟩:=h;exact⟨vs,hv,Zeh hr⟩
 |dead=>trivial
 |_=>
  have:=Zni (ks:=ks) (Rep.toV (λds e=>by cases e) (λe=>by cases e) h)
  exact Rep.Ky this
theorem Z95:∀{ds:List D} {arr:Array Value} {off:Nat},kJ c w ds arr off->kJ (c.kill ks) w (D.kA ks ds) arr off
 |[],_,_,_=>trivial
 |_::_,_,_,⟨⟨v,hv,h1⟩,h2⟩=>⟨⟨v,hv,SH h1⟩,Z95 h2⟩
theorem Zlt{r:Nat}{row:Row}(h:EN c w r row):EN (c.kill ks) w r (row.kill ks):=by
 obtain⟨s1,s2,s3,s4⟩:=wh ks row
 rcases h with⟨h0,h1,h2,h3⟩|⟨h0,arr,ha,hs,hx⟩
 ·refine .inl ⟨h0,s1.trans h1,?_,by rw[s3];exact h3⟩
  rw[h2]at s4;exact fP s4
 ·refine .inr ⟨h0,arr,by rw[s2];exact ha,by rw[s3];exact hs,?_⟩
  rw[s1,s3]
  split
  ·rename_i hb
   simp only[hb,if_true]at hx
   obtain⟨e,k1,k2,k3,k4⟩:=hx
   obtain⟨box,ty,sz,es⟩:=row
   simp only at hb k1 k2 k3 k4
   subst hb;subst k1
   exact⟨D.kA ks e,rfl,by rw[Qyt];exact k2,k3,Z95 k4⟩
  ·rename_i hb
   simp only[hb,aN,if_false]at hx
   have he:(row.kill ks).es=row.es:=by
    unfold Row.kill
    split
    ·simp at hb
    ·rfl
   rw[he];exact hx
theorem oh{r:Nat}{x:Row}(h:(c.kill ks).R r=some x):bw r ks=false/\∃row,c.R r=some row/\x=row.kill ks:=by
 simp only[Ctx.kill]at h
 cases hb:bw r ks with
 |true=>rw[hb]at h;simp at h
 |false=>
  rw[hb]at h
  simp only[aN,if_false,fQ]at h
  obtain⟨row,h1,h2⟩:=h
  exact⟨rfl,row,h1,h2.symm⟩
theorem YO(hm:Mem c w):Mem (c.kill ks) w:=by
 refine⟨λr x hx=>?_,λr s x y hx hy v1 v2 he=>?_,λb hb=>⟨(hm.fu b hb).1,λr x hx v=>?_⟩,hm.top,hm.kM⟩
 ·obtain⟨_,row,h1,rfl⟩:=oh hx
  exact Zlt (hm.row r row h1)
 ·obtain⟨_,row,h1,_⟩:=oh hx
  obtain⟨_,ak,h2,_⟩:=oh hy
  exact hm.inj r s row ak h1 h2 v1 v2 he
 ·obtain⟨_,row,h1,_⟩:=oh hx
  exact(hm.fu b hb).2 r row h1 v
end
theorem Znr:∀{l:List Nat},nN l []=true
 |[]=>rfl
 |x::l=>by simp only[nN,bw];exact Znr
theorem Wq(d:D):d.ei []=d:=by
 cases d with
 |gn f cs=>simp only[D.ei,Znr]
 |_=>rfl
theorem Wp:∀{ds:List D},D.kA [] ds=ds
 |[]=>rfl
 |d::l=>by simp only[D.kA,Wq,Wp (ds:=l)]
theorem Z2v(row:Row):row.kill []=row:=by
 unfold Row.kill;split
 ·simp[Wp]
 ·rfl
theorem vP(c:Ctx):c.kill []=c:=by
 obtain⟨ρ,R,V,I,base,top,X⟩:=c
 simp only[Ctx.kill,bw,aN,if_false]
 congr 1
 funext r
 cases R r<;>simp[Z2v]
theorem lN.toK{c c':Ctx}{w w':World}(h:lN c w c' w'):jE [] c w c' w':=
 ⟨h.mem,by rw[vP];exact h.bz,h.fr,λb hb=>(h.fu b hb).imp id .inr,λr ak h1 h2=>(h.og r ak h1 h2).imp id .inr⟩
theorem PM{ks:List Nat}:∀{R:Rows} {i r:Nat},(rV ks R i).getD r none=if bw (i+r) ks=true then none else(R.getD r none).map (Row.kill ks)
 |[],i,r=>by simp[rV]
 |x::l,i,0=>by
  simp only[rV,bG]
  cases bw i ks<;>cases x<;>simp
 |x::l,i,r+1=>by
  have:=PM (ks:=ks) (R:=l) (i:=i+1) (r:=r)
  rw[show i+1+r=i+(r+1) by omega]at this
  simpa[rV]using this
theorem Jw{ks:List Nat}:∀{R:Rows} {i:Nat},(rV ks R i).length=R.length
 |[],_=>rfl
 |x::l,i=>by simp[rV,Jw (R:=l)]
def Q9(ks:List Nat)(env:List (Nat×D)):List (Nat×D):=env.map λx=>(x.1,x.2.gq ks)
theorem Io{ks:List Nat}:∀{env:List (Nat×D)} {K:List (Nat×D)->Prop},Gm ks env K↔K (Q9 ks env)
 |[],_=>Iff.rfl
 |(t,d)::l,K=>by
  simp only[Gm,D.cg]
  rw[Io (env:=l) (K:=λl=>K ((t,d.gq ks)::l))]
  rfl
theorem BQ{ks:List Nat}:∀{env:List (Nat×D)} {t:Nat},look (Q9 ks env) t=(look env t).gq ks
 |[],_=>rfl
 |(u,d)::l,t=>by
  simp only[Q9,fR,look]
  cases Nat.beq u t with
  |true=>rfl
  |false=>exact BQ (env:=l)
theorem Qmw{P:Program}(w:World){t tx ty e:TypeId}{i:TypeInfo}{ux:TypeDesc}(ht:P.underlying t=some (.slice e))(pA:P.underlying tx=some ux)(hx:∀k,ux≠.int k)(hi:P.info? e=some i)
 {a:Option Addr} {n cap m:Nat} {x:Value} {news:List Value} (hl:(Builtin.lenOf x).run P w=.ok m w) (hf:(Builtin.firstCells i.size m x).run P w=.ok news.toArray w) (kO:n+m<=cap) {w':World}
 (jT:∀b,a=some b->(storeCells (b.add (n*i.size)) news).run P w=.ok () w') (oL:a=none->w'=w):
 (Builtin.append_ #[t,tx] ty #[.slice a n cap,x]).run P w=.ok (.slice a (n+m) cap) w':=by
 have hz:(match ux with|.int _=>true|_=>false)=false:=by
  cases ux<;>first|rfl|exact absurd rfl (hx _)
 cases a with
 |none=>
  have:=oL rfl
  subst this
  simp[Builtin.append_,run_underlying ht,run_underlying pA,hz,sizeOf,typeInfo,hi,hl,kO,hf]
 |some b=>simp[Builtin.append_,run_underlying ht,run_underlying pA,hz,sizeOf,typeInfo,hi,hl,kO,hf,jT b rfl]
theorem Qn3{P:Program}(w:World){t tx ty e:TypeId}{i:TypeInfo}{z:Value}{ux:TypeDesc}(ht:P.underlying t=some (.slice e))(pA:P.underlying tx=some ux)(hx:∀k,ux≠.int k)(hi:P.info? e=some i)(hz:i.zero=some z)
 {a:Option Addr} {n cap m:Nat} {x:Value} {kU news:List Value} (hl:(Builtin.lenOf x).run P w=.ok m w) (hf:(Builtin.firstCells i.size m x).run P w.drew=.ok news.toArray w.drew) (hfo:(Builtin.firstCells i.size n (.slice a n cap)).run P w.drew=.ok kU.toArray w.drew)
 (hg:cap<n+m) (h63:((n+m:Nat):Int)<=9223372036854775807) (ra:Builtin.nextslicecap (n+m) cap*i.bytes<=281474976710656):
 (Builtin.append_ #[t,tx] ty #[.slice a n cap,x]).run P w=.ok (.slice (some ⟨w.heap.size,0,none⟩) (n+m) (grownCap w (n+m) cap e))
  (w.drew.alloc (.cells (kU.toArray++news.toArray++Builtin.zeroCells z.cells (grownCap w (n+m) cap e-(n+m))) e)):=by
 have hn:¬(n+m<=cap):=by omega
 have IJ:¬(9223372036854775807<((n:Int)+(m:Int))):=by omega
 have YP:¬(281474976710656<Builtin.nextslicecap (n+m) cap*i.bytes):=by omega
 simp[Builtin.append_,run_underlying ht,run_underlying pA,sizeOf,typeInfo,zeroValue,hi,hz,hl,hn,IJ,YP,Question.forced,hf,hfo,newRow,grownCap]
 congr 2
 apply fS
 simp[fF]
theorem vu{w:World}{b o:Nat}{arr:Array Value}{ty:TypeId}{fz:Nat×Nat}(h:w.heap[b]?=some (.cells arr ty fz))(j:Nat):w.cell? ((⟨b,o,none⟩:Addr).add j)=arr[o+j]? :=by
 rw[FG]
 unfold World.cell?
 simp[h]
theorem Zhs{I:ag}{w:World}{es:List (List D)}{arr:Array Value}{off sz:Nat}(h:iI I w es arr off sz)(h0:0<sz):∃news:List Value,news.length=es.length*sz/\(∀j u,news[j]?=some u->arr[off+j]?=some u)/\iI I w es news.toArray 0 sz:=by
 have fw:es.length*sz<=arr.size-off:=by
  by_cases he:es.length=0
  ·rw[he];omega
  ·obtain⟨h1,h2⟩:=wa.1 h (es.length-1) (by omega)
   obtain⟨v,hv,_⟩:=tR.1 h2 (sz-1) (by omega)
   have cf:=(Array.getElem?_eq_some_iff.1 hv).1
   have:es.length*sz=(es.length-1)*sz+sz:=by
    rw[show es.length*sz=(es.length-1+1)*sz by congr 1;omega,aW]
   omega
 refine⟨(arr.toList.drop off).take (es.length*sz),by simp;omega,λj u hj=>?_,?_⟩
 ·rw[aU]at hj
  split at hj
  ·rw[fT]at hj
   simpa using hj
  ·cases hj
 ·rw[wa]at h⊢
  intro i hi
  obtain⟨h1,h2⟩:=h i hi
  refine⟨h1,?_⟩
  rw[tR]at h2⊢
  intro j hj
  obtain⟨v,hv,hp⟩:=h2 j hj
  refine⟨v,?_,hp⟩
  have cf:i*sz+j<es.length*sz:=by
   have:=aV sz (show i+1<=es.length by omega)
   rw[aW]at this
   omega
  simp only[aX,aY]
  rw[aU,if_pos cf,fT,<-hv]
  simp[Nat.add_assoc]
theorem iI.one{I:ag}{w:World}{es:List (List D)}{news:List Value}{sz:Nat}(h:iI I w es news.toArray 0 sz)(hl:news.length=es.length*sz):∀u∈news,u.oneCell'=true:=by
 intro u hu
 obtain⟨j,hj⟩:=List.getElem?_of_mem hu
 have cf:=(List.getElem?_eq_some_iff.1 hj).1
 have h0:0<sz:=by
  rcases Nat.eq_zero_or_pos sz with h0|h0
  ·subst h0;simp at hl;rw[hl]at cf;simp at cf
  ·exact h0
 have hi:j/sz<es.length:=by rw[Nat.div_lt_iff_lt_mul h0];omega
 obtain⟨h1,h2⟩:=wa.1 h (j/sz) hi
 obtain⟨v,hv,hp⟩:=tR.1 h2 (j%sz) (by rw[h1];exact Nat.mod_lt _ h0)
 have e:0+j/sz*sz+j%sz=j:=by rw[aX,fU];exact Nat.div_add_mod j sz
 rw[e,aY,hj]at hv
 cases hv
 exact fx.one hp
theorem Zlc{I:ag}{w:World}(s:List UInt8):iI I w (ao.ints .u8 (Q2 s)).l (s.map λb=>Value.int .u8 b.toNat).toArray 0 1:=by
 rw[wa]
 intro i hi
 have iy:i<s.length:=by simpa[Q2,ao.l]using hi
 have he:(ao.ints .u8 (Q2 s)).l.getD i []=[.int .u8 s[i].toNat]:=by simp[Q2,ao.l,aK,iy]
 rw[he]
 refine⟨rfl,?_⟩
 simp only[BK,Ak,si,rL,sj,sq,sr,ss,tv,tU,tV,tW,tX,tY,tZ,ua,ub,uc,and_true]
 exact⟨_,by simp[iy],rfl⟩
def Src(P:Program)(c:Ctx)(w:World)(v:Value)(ys:List (List D))(sz:Nat):Prop:=
 ∃news:List Value,news.length=ys.length*sz/\(Builtin.lenOf v).run P w=.ok ys.length w/\(∀k,k<=ys.length->∀w',w'.heap=w.heap->(Builtin.firstCells sz k v).run P w'=.ok (news.take (k*sz)).toArray w')/\iI c.I w ys news.toArray 0 sz
theorem Qt{P:Program}{c:Ctx}{w:World}{sz sy:Nat}(h0:0<sz){es:List (List D)}{a:Option Addr}{cap:Nat}(ij:es=[]\/sy=sz/\∃b off arr ty fz,a=some ⟨b,off,none⟩/\w.heap[b]?=some (.cells arr ty fz)/\iI c.I w es arr off sy):
 Src P c w (.slice a es.length cap) es sz:=by
 rcases ij with ij|⟨hss,b,off,arr,ty,fz,ha,hh,hE⟩
 ·subst ij
  refine⟨[],by simp,by simp[Builtin.lenOf],λk hk w' _=>?_,by simp[pM,oi]⟩
  have Aj:k=0:=by simpa using hk
  subst Aj
  cases a with
  |none=>simp[Builtin.firstCells]
  |some a=>
   have:=run_firstCells_some (P:=P) w' sz 0 a 0 cap [] (by simp) (λj v h=>by simp at h)
   simpa using this
 ·subst hss
  obtain⟨news,g1,g2,g3⟩:=Zhs hE h0
  refine⟨news,g1,by simp[Builtin.lenOf],λk hk w' YQ=>?_,g3⟩
  subst ha
  refine run_firstCells_some (P:=P) w' sy k ⟨b,off,none⟩ _ cap (news.take (k*sy)) ?_ λj u hj=>?_
  ·have:=aV sy hk
   simp;omega
  ·rw[vu (by rw[YQ];exact hh)]
   rw[aU]at hj
   split at hj
   ·exact g2 j u hj
   ·cases hj
theorem vZ{P:Program}{c:Ctx}{w:World}{R:Rows}{y:D}{v:Value}{sy sz:Nat}{ys:ao}(h0:0<sz)(h:su R y=some (sy,ys))(hs:sy=sz\/ys.l=[])(hm:Mem c w)(hA:mH c R)(hr:Rep c w y v):Src P c w v ys.l sz:=by
 cases y<;>simp only[su]at h<;>try(cases h;done)
 case du=>cases h;rw[show v=_ from hr];exact Qt (sy:=sz) h0 (es:=[]) (.inl rfl)
 case emp=>cases h;obtain⟨a,hv,_⟩:=hr;rw[hv];exact Qt (sy:=sz) h0 (es:=[]) (.inl rfl)
 case sl s es fr=>
  cases h
  obtain⟨a,cap,hv,hc,ij⟩:=hr
  rw[hv]
  refine Qt (sy:=sy) h0 ?_
  rcases ij with ij|⟨b,off,arr,ty,fz,ha,hI,hf,hh,hE⟩
  ·exact .inl ij
  ·rcases hs with hs|hs
   ·exact .inr ⟨hs,b,off,arr,ty,fz,ha,hh,hE⟩
   ·exact .inl hs
 case all r=>
  split at h
  ·rename_i ty s es hR
   cases h
   obtain⟨row,g1,g2,hv⟩:=hr
   have:=hA r row _ g1 hR
   subst this
   rcases hv with⟨hV,a,hv,_⟩|⟨hV,cap,arr,hv,g3,g4,g5,g6⟩
   ·have he:=(hm.oe g1 hV).2.1
    simp only at he
    rw[hv,he]
    exact Qt (sy:=sz) h0 (es:=[]) (.inl rfl)
   ·obtain⟨iM,jB,ji,hx⟩:=hm.real g1 hV
    simp only at g5 jB hx hv
    rw[g5]at jB;cases jB
    simp only[aN,if_false]at hx
    rw[hv]
    refine Qt (sy:=sy) h0 ?_
    rcases hs with hs|hs
    ·exact .inr ⟨hs,_,0,arr,_,_,rfl,g5,hx⟩
    ·exact .inl hs
  ·cases h
 case own r o n=>
  split at h
  ·rename_i ty s es hR
   cases h
   obtain⟨row,g1,g2,g5,hv⟩:=hr
   have:=hA r row _ g1 hR
   subst this
   simp only at g5
   have hlen:((es.l.drop o).take n).length=n:=by simp only[bD,bF];omega
   rw[ao.iY,ao.kh]at hs⊢
   rcases hv with⟨g7,a,hv,_⟩|⟨hV,cap,arr,g3,g4,g6,hv,g7⟩
   ·subst g7
    rw[hv]
    have:=Qt (P:=P) (c:=c) (w:=w) (sy:=sz) h0 (es:=(es.l.drop o).take 0) (a:=a) (cap:=0) (.inl (by simp))
    simpa using this
   ·obtain⟨iM,jB,ji,hx⟩:=hm.real g1 hV
    simp only at g6 jB hx hv
    rw[g6]at jB;cases jB
    simp only[aN,if_false]at hx
    have hE:=Mh (n:=n) (Ku (l:=o) hx)
    have:=Qt (P:=P) (c:=c) (w:=w) (sy:=sy) h0 (es:=(es.l.drop o).take n) (a:=some ⟨c.ρ r,o*sy,none⟩) (cap:=cap) (by
     rcases hs with hs|hs
     ·exact .inr ⟨hs,_,o*sy,arr,_,_,rfl,g6,by simpa using hE⟩
     ·exact .inl hs)
    rw[hlen]at this
    rw[hv];exact this
  ·cases h
theorem v6{P:Program}{c:Ctx}{w:World}{R:Rows}{ke kx:TK}{y:D}{v:Value}{sy sz:Nat}{ys:ao}(h0:0<sz)(h:CE R ke kx y=some (sy,ys))(hs:sy=sz\/ys.l=[])(hm:Mem c w)(hA:mH c R)(hr:Rep c w y v):Src P c w v ys.l sz:=by
 unfold CE at h
 split at h
 ·exact vZ h0 h hs hm hA hr
 ·split at h
  ·rename_i s
   cases h
   have hv:=Rep.str.1 hr
   subst hv
   have fw:(ByteArray.mk s.toArray).size=s.length:=by simp[ByteArray.size]
   have ext:∀k,((ByteArray.mk s.toArray).extract 0 k).data.toList=s.take k:=λk=>by
    simp[ByteArray.data_extract]
   have hf:∀k w',(Builtin.firstCells sz k (.string ⟨s.toArray⟩)).run P w'=.ok ((s.map λb=>Value.int .u8 b.toNat).take k).toArray w':=λk w'=>by
    simp only[Builtin.firstCells,Sem.run_pure]
    congr 1
    apply fS
    simp only[Array.toList_map,ext,List.map_take]
   rcases hs with hs|hs
   ·subst hs
    exact⟨s.map λb=>Value.int .u8 b.toNat,by simp[Q2,ao.len],by simp[Builtin.lenOf,Q2,ao.len,fw],λk hk w' _=>by rw[hf];simp,Zlc s⟩
   ·have:s=[]:=by simpa[Q2,ao.l]using hs
    subst this
    exact⟨[],by simp[Q2,ao.len],by simp[Builtin.lenOf,Q2,ao.len,fw],λk hk w' _=>by rw[hf];simp,by simp[Q2,ao.l,pM,oi]⟩
  ·cases h
 ·cases h
def Ctx.jr(c:Ctx)(k:Nat)(row:Row):Ctx:={c with R:=λr=>if r=k then some row else c.R r,V:=λr=>r=k\/c.V r}
theorem SJ{c:Ctx}{w:World}{k:Nat}(hk:c.R k=none)(row:Row):jk c w (c.jr k row) w:=by
 refine⟨rfl,aO _,λb hb=>⟨hb,rfl⟩,λr x hr=>?_⟩
 have gr:r≠k:=λe=>by rw[e,hk]at hr;cases hr
 exact⟨x,by simp[Ctx.jr,gr,hr],rfl,rfl,rfl,rfl,rfl,by simp[Ctx.jr,gr],λ_ arr ha=>⟨arr,ha,rfl⟩⟩
theorem Wv{c:Ctx}{w:World}(hm:Mem c w){k:Nat}(hk:c.R k=none){row:Row}(hb:row.box=false)(he:row.es.l=[])(h0:0<row.sz):Mem (c.jr k row) w:=by
 have hg:=SJ (w:=w) hk row
 have inv:∀r x,(c.jr k row).R r=some x->¬(c.jr k row).V r->c.R r=some x/\¬c.V r:=λr x hr hv=>by
  have h1:¬r=k:=λe=>hv (.inl e)
  exact⟨by simpa[Ctx.jr,h1]using hr,λe=>hv (.inr e)⟩
 refine⟨λr x hr=>?_,λr s x y hr hs v1 v2 h=>?_,λb iz=>⟨(hm.fu b iz).1,λr x hr v=>?_⟩,hm.top,hm.kM⟩
 ·by_cases e:r=k
  ·subst e
   simp only[Ctx.jr,if_true,Option.some.injEq]at hr
   subst hr
   exact .inl ⟨.inl rfl,hb,he,h0⟩
  ·have nA:c.R r=some x:=by simpa[Ctx.jr,e]using hr
   exact tS hg rfl (by simp[Ctx.jr,e]) (λ_=>rfl) (hm.row r x nA)
 ·obtain⟨h1,h2⟩:=inv r x hr v1
  obtain⟨h3,h4⟩:=inv s y hs v2
  exact hm.inj r s x y h1 h3 h2 h4 h
 ·obtain⟨h1,h2⟩:=inv r x hr v
  exact(hm.fu b iz).2 r x h1 h2
theorem M6(c:Ctx)(w:World):jk c w c w.drew:=⟨rfl,aO _,λb hb=>⟨hb,rfl⟩,λr row hr=>⟨row,hr,rfl,rfl,rfl,rfl,rfl,Iff.rfl,λ_ arr ha=>⟨arr,ha,rfl⟩⟩⟩
theorem Ks{c:Ctx}{w:World}(h:Mem c w):Mem c w.drew:=
 ⟨λr row hr=>tS (M6 c w) rfl Iff.rfl (λ_=>rfl) (h.row r row hr),h.inj,h.fu,h.top,h.kM⟩
theorem YR{I:ag}{w:World}{es ys:List (List D)}{A B C:List Value}{sz:Nat}(h1:iI I w es A.toArray 0 sz)(hA:A.length=es.length*sz)(h2:iI I w ys B.toArray 0 sz)(hB:B.length=ys.length*sz):iI I w (es++ys) (A++B++C).toArray 0 sz:=by
 rw[wa]at h1 h2⊢
 intro i hi
 by_cases cf:i<es.length
 ·have he:(es++ys).getD i []=es.getD i []:=by simp[aK,aZ cf]
  rw[he]
  obtain⟨g1,g2⟩:=h1 i cf
  refine⟨g1,?_⟩
  rw[tR]at g2⊢
  intro j hj
  obtain⟨v,hv,hp⟩:=g2 j hj
  refine⟨v,?_,hp⟩
  have hl:=(Array.getElem?_eq_some_iff.1 hv).1
  simp only[aY,bA]at hv hl⊢
  rw[fF,aZ hl];exact hv
 ·have iy:i-es.length<ys.length:=by simp at hi;omega
  have he:(es++ys).getD i []=ys.getD (i-es.length) []:=by simp[aK,bB (show es.length<=i by omega)]
  rw[he]
  obtain⟨g1,g2⟩:=h2 _ iy
  refine⟨g1,?_⟩
  rw[tR]at g2⊢
  intro j hj
  obtain⟨v,hv,hp⟩:=g2 j hj
  refine⟨v,?_,hp⟩
  have hl:=(Array.getElem?_eq_some_iff.1 hv).1
  simp only[aY,bA]at hv hl⊢
  have e:0+i*sz+j=A.length+(0+(i-es.length)*sz+j):=by
   rw[hA,show i*sz=(es.length+(i-es.length))*sz by congr 1;omega,bC];omega
  rw[e,fF,bB (by omega),aZ (by omega)]
  rw[show A.length+(0+(i-es.length)*sz+j)-A.length=0+(i-es.length)*sz+j by omega]
  exact hv
theorem qQ{c:Ctx}{w:World}(hm:Mem c w){r k:Nat}{row ak:Row}{cur arr:Array Value}(hr:c.R r=some row)(hV:¬c.V r)(hk:c.R k=none)(hh:w.heap[c.ρ r]?=some (.cells cur row.ty (0,0)))(Up:ak.ty=row.ty)(h0:0<ak.sz)(hb:ak.box=false)
 (hE:∀w',(∀b,c.I b->w'.heap[b]?=w.heap[b]?)->iI c.I w' ak.es.l arr 0 ak.sz):
 jk (c.kill [r]) w ((c.kill [r]).add k ak (c.ρ r)) (w.setRow (c.ρ r) arr)/\Mem ((c.kill [r]).add k ak (c.ρ r)) (w.setRow (c.ρ r) arr):=by
 have BZ:=YO (ks:=[r]) hm
 have FH:(c.kill [r]).R k=none:=by simp[Ctx.kill,hk]
 have oL:∀s x,(c.kill [r]).R s=some x->s≠r/\s≠k:=λs x hs=>by
  obtain⟨h1,j5,h2,_⟩:=oh hs
  refine⟨λe=>?_,λe=>by rw[e,FH]at hs;cases hs⟩
  rw[e]at h1
  have:=oj (r:=r) (l:=[r])
  simp[h1]at this
 have fh:(w.setRow (c.ρ r) arr).heap[c.ρ r]?=some (.cells arr row.ty (0,0)):=setRow_heap w _ _ _ _ _ hh
 have CF:∀s x,(c.kill [r]).R s=some x->¬c.V s->(w.setRow (c.ρ r) arr).heap[c.ρ s]?=w.heap[c.ρ s]? :=λs x hs v=>setRow_other w _ _ _ λe=>by
  obtain⟨_,j5,h2,_⟩:=oh hs
  exact(oL s x hs).1 (hm.inj s r j5 row h2 hr v hV e)
 have hI:∀b,c.I b->(w.setRow (c.ρ r) arr).heap[b]?=w.heap[b]? :=λb hb=>setRow_other w _ _ _ (λe=>(hm.fu b hb).2 r row hr hV e.symm)
 have hg:jk (c.kill [r]) w ((c.kill [r]).add k ak (c.ρ r)) (w.setRow (c.ρ r) arr):=by
  refine⟨rfl,aO _,λb hb=>⟨hb,hI b hb⟩,λs x hs=>?_⟩
  obtain⟨n1,n2⟩:=oL s x hs
  exact⟨x,by simp[Ctx.add,n2,hs],rfl,rfl,rfl,rfl,by simp[Ctx.add,n2],by simp[Ctx.add,n2],λv a ha=>⟨a,(CF s x hs v).trans ha,rfl⟩⟩
 have inv:∀s x,((c.kill [r]).add k ak (c.ρ r)).R s=some x->¬((c.kill [r]).add k ak (c.ρ r)).V s->(s=k/\((c.kill [r]).add k ak (c.ρ r)).ρ s=c.ρ r)\/(s≠k/\s≠r/\((c.kill [r]).add k ak (c.ρ r)).ρ s=c.ρ s/\¬c.V s/\∃y,c.R s=some y):=λs x hs v=>by
  by_cases e:s=k
  ·exact .inl ⟨e,by simp[Ctx.add,e]⟩
  ·have ji:(c.kill [r]).R s=some x:=by simpa[Ctx.add,e]using hs
   obtain⟨_,y,hy,_⟩:=oh ji
   have v':¬c.V s:=λh=>v (by simp only[Ctx.add];exact⟨e,h⟩)
   exact .inr ⟨e,(oL s x ji).1,by simp[Ctx.add,e,Ctx.kill],v',y,hy⟩
 refine⟨hg,⟨λs x hs=>?_,λs q x y hs hq v1 v2 he=>?_,λb iz=>?_,by show c.top<=(w.setRow _ _).heap.size;simpa[World.setRow]using hm.top,hm.kM.mono hg.I⟩⟩
 ·by_cases e:s=k
  ·subst e
   simp only[Ctx.add,if_true,Option.some.injEq]at hs
   subst hs
   refine .inr ⟨by simp[Ctx.add],arr,by simp only[Ctx.add,if_true];rw[Up];exact fh,h0,?_⟩
   rw[hb]
   simp only[aN,if_false]
   exact hE _ hI
  ·have ji:(c.kill [r]).R s=some x:=by simpa[Ctx.add,e]using hs
   exact tS hg (by simp[Ctx.add,e]) (by simp[Ctx.add,e]) (λv=>CF s x ji v) (BZ.row s x ji)
 ·rcases inv s x hs v1 with⟨e1,p1⟩|⟨e1,p1,p2,p3,y1,p4⟩<;>rcases inv q y hq v2 with⟨e2,q1⟩|⟨e2,q1,q2,q3,y2,q4⟩
  ·rw[e1,e2]
  ·rw[p1,q2]at he
   exact(q1 (hm.inj q r y2 row q4 hr q3 hV he.symm)).elim
  ·rw[p2,q1]at he
   exact(p1 (hm.inj s r y1 row p4 hr p3 hV he)).elim
  ·rw[p2,q2]at he
   exact hm.inj s q y1 y2 p4 q4 p3 q3 he
 ·refine⟨by simpa[World.setRow]using(hm.fu b iz).1,λs x hs v=>?_⟩
  rcases inv s x hs v with⟨e1,p1⟩|⟨e1,p1,p2,p3,y1,p4⟩
  ·rw[p1];exact(hm.fu b iz).2 r row hr hV
  ·rw[p2];exact(hm.fu b iz).2 s y1 p4 p3
def BN(P:Program)(o:Oper)(ev:Operand->D)(R:Rows)(ks:List Nat)(val:D)(R':Rows):Prop:=
 ∀ (c:Ctx) (w:World) (a:Act),Mem c w->c.base<=w.heap.size->(∀r,c.R r=R.getD r none)->(∀x∈o.op.operands,Rep c w (ev x) (a.eval x))->
  ∀K Q,(∀v w' c',jE ks c w c' w'->(∀r,c'.R r=R'.getD r none)->Rep c' w' val v->K (a.put o.dst v) w')->o.nj P a w K Q
theorem EM.toK{P:Program}{o:Oper}{ev:Operand->D}{R:Rows}{val:D}{R':Rows}(h:EM P o ev R val R'):BN P o ev R [] val R':=
 λc w a hm hb hR ep K Q hK=>h c w a hm hb hR ep K Q λv w' c' hn jY hv=>hK v w' c' hn.toK jY hv
section
variable {P:Program} {c:Ctx} {w:World} {R:Rows} {ks:List Nat} {e sz lO:Nat} {es ys:ao}
theorem Uq{row:Row}{ρ':Nat->Nat}{V':Nat->Prop}(hR:∀r,c.R r=R.getD r none):∀r,(if r=R.length then some row else(c.kill ks).R r)=(rV ks R 0++[some row]).getD r none:=by
 intro r
 by_cases e:r=R.length
 ·subst e
  simp[aK,bB,Jw]
 ·rw[if_neg e]
  by_cases cf:r<R.length
  ·rw[aK,aZ (by rw[Jw];exact cf),<-aK,PM]
   simp[Ctx.kill,hR]
  ·rw[aK,aM (by simp[Jw];omega)]
   simp[Ctx.kill,hR,aM (show R.length<=r by omega)]
theorem append_empty{t tx ty:TypeId}{i:TypeInfo}{z:Value}{ux:TypeDesc}(ht:P.underlying t=some (.slice e))(pA:P.underlying tx=some ux)(hx: ∀k,ux≠ .int k)(hi:P.info? e=some i)(hz:i.zero=some z)(fw:i.size=sz)(uD:i.bytes=lO)(FI:z.cells.size=sz)
    (hm:Mem c w) (hb:c.base<=w.heap.size) (hR: ∀r,c.R r=R.getD r none) (h0:0<sz) (pz:0<lO) (oA:lO*(0+ys.l.length)<=140737488355328) {a:Option Addr} (Ay:Ax c.top a) {vy:Value} (hs:Src P c w vy ys.l sz):
    ∃v' w' c',(Builtin.append_ #[t,tx] ty #[.slice a 0 0,vy]).run P w= .ok v' w'/\jE ks c w c' w'/\(∀r,c'.R r=(rV ks R 0++[some (⟨false,e,sz,ys⟩:Row)]).getD r none)/\Rep c' w' (.all R.length) v':=by
  obtain⟨news,g1,g2,g3,g4⟩:=hs
  have hk:c.R R.length=none:=by rw[hR];simp [aK]
  have FH:(c.kill ks).R R.length=none:=by simp [Ctx.kill,hk]
  have BZ:=YO (ks:=ks) hm
  subst fw
  by_cases hm0:ys.l.length=0
  . have SN:ys.l=[]:=fP hm0
    have hn:news=[]:=fP (by rw[g1,hm0];simp)
    subst hn
    rw[SN]at g2 g3
    have ig:=Qmw (P:=P) w (ty:=ty) (n:=0) (cap:=0) (a:=a) (w':=w) ht pA hx hi g2 (by simpa using g3 0 (aO _) w rfl) (by simp) (λb _=>by simp [storeCells]) (λ_=>rfl)
    refine⟨_,w,(c.kill ks).jr R.length ⟨false,e,i.size,ys⟩,ig,⟨Wv BZ FH rfl SN h0,SJ FH _,Fr.refl _ w,λb hb=> .inl hb,λr ak h1 h2=> ?_⟩,Uq (ρ':=c.ρ) (V':=c.V) hR,?_⟩
    . have gr:r≠R.length:=λe=>h2 (.inl e)
      have o8:(c.kill ks).R r=some ak:=by simpa [Ctx.jr,gr] using h1
      obtain⟨_,j5,h3,_⟩:=oh o8
      exact .inl ⟨⟨j5,h3⟩,λe=>h2 (.inr e),rfl⟩
    . exact⟨⟨false,e,i.size,ys⟩,by simp [Ctx.jr],rfl, .inl ⟨.inl rfl,a,rfl,Ay⟩⟩
  . have hlen:(0+ys.l.length:Nat)*i.bytes<=140737488355328:=by rw[uD,fU];exact oA
    have Uc:0+ys.l.length<=140737488355328:=bH (fV _ (by rw[uD];exact pz)) hlen
    have YS:0+ys.l.length<=maxLen:=by unfold maxLen;omega
    have ig:=Qn3 (P:=P) w (ty:=ty) (n:=0) (cap:=0) (a:=a) (kU:=[]) (news:=news) ht pA hx hi hz g2
      (by have:=g3 _ (aO _) w.drew rfl;rwa [fK (by omega)]at this)
      (by cases a with
          |none=>simp [Builtin.firstCells]
          |some a=>simpa using run_firstCells_some (P:=P) w.drew i.size 0 a 0 0 [] (by simp) (λj v h=>by simp at h)) (by omega) (by omega) (growslice_fits (by omega) hlen)
    have pJ:=grownCap_ge w (0+ys.l.length) 0 e
    have Aw:grownCap w (0+ys.l.length) 0 e<=maxLen:=grownCap_le_maxLen w _ _ e YS
    generalize grownCap w (0+ys.l.length) 0 e=gc at ig pJ Aw
    have mj:(#[]++news.toArray++Builtin.zeroCells z.cells (gc-(0+ys.l.length))).size=gc*i.size:=by
      have e1:(#[]++news.toArray++Builtin.zeroCells z.cells (gc-(0+ys.l.length))).size=ys.l.length*i.size+(gc-(0+ys.l.length))*i.size:=by
        simp [size_zeroCells,FI,g1]
      rw[e1,<-bC]
      congr 1;omega
    have hE: ∀(I:ag) (w':World),(∀b,c.I b->I b/\w'.heap[b]? =w.heap[b]?)->iI I w' ys.l (#[]++news.toArray++Builtin.zeroCells z.cells (gc-(0+ys.l.length))) 0 i.size:=λI w' h=>by
      have:=YR (I:=I) (w:=w') (es:=[]) (ys:=ys.l) (A:=[]) (B:=news) (C:=(Builtin.zeroCells z.cells (gc-(0+ys.l.length))).toList) (sz:=i.size) (by simp [pM,oi]) (by simp) (od h _ _ _ _ g4) g1
      have h2:(#[]++news.toArray++Builtin.zeroCells z.cells (gc-(0+ys.l.length)))=([]++news++(Builtin.zeroCells z.cells (gc-(0+ys.l.length))).toList).toArray:=by apply fS;simp
      rw[h2];simpa using this
    have Ho:=Mem.alloc (w:=w.drew) (Ks BZ) FH ⟨false,e,i.size,ys⟩ (#[]++news.toArray++Builtin.zeroCells z.cells (gc-(0+ys.l.length))) h0 (by
      simp only[aN,if_false]
      exact hE _ _ λb hb=>⟨hb,rfl⟩)
    have oB:=YT (c:=c.kill ks) (w:=w.drew) (k:=R.length) (e:=e) (sz:=i.size) (cap:=gc) (es:=ys) (arr:= #[]++news.toArray++Builtin.zeroCells z.cells (gc-(0+ys.l.length))) (by omega) Aw mj.symm
    refine⟨_,_,(c.kill ks).add R.length ⟨false,e,i.size,ys⟩ w.heap.size,ig,⟨Ho,(M6 _ w).trans (jk.alloc (w:=w.drew) (Ks BZ) FH _ _),?_,λb hb=> .inl hb,λr ak h1 h2=> ?_⟩,Uq (ρ':=c.ρ) (V':=c.V) hR,by have h3:=oB;simp only[aX]at h3⊢;exact h3⟩
    . exact Fr.trans (w':=w.drew) ⟨rfl,rfl,rfl,aO _,λ_ _ _=>rfl⟩ (Fr.alloc _ w.drew _)
    . by_cases e1:r=R.length
      . subst e1
        right;right
        simp [Ctx.add]
      . have o8:(c.kill ks).R r=some ak:=by simpa [Ctx.add,e1] using h1
        obtain⟨_,j5,h3,_⟩:=oh o8
        exact .inl ⟨⟨j5,h3⟩,by simpa [Ctx.add,e1,Ctx.kill] using h2,by simp [Ctx.add,e1,Ctx.kill]⟩
theorem Zh6{t tx ty:TypeId}{i:TypeInfo}{z:Value}{ux:TypeDesc}(ht:P.underlying t=some (.slice e))(pA:P.underlying tx=some ux)(hx:∀k,ux≠.int k)(hi:P.info? e=some i)(hz:i.zero=some z)(fw:i.size=sz)(uD:i.bytes=lO)(FI:z.cells.size=sz)
 (hm:Mem c w) (hb:c.base<=w.heap.size) (hR:∀r,c.R r=R.getD r none) (h0:0<sz) (pz:0<lO) (oA:lO*(es.l.length+ys.l.length)<=140737488355328) {r:Nat} {row:Row} (q1:c.R r=some row) (Up:row.ty=e) (hV:¬c.V r) {cap:Nat} {cur:Array Value} (h1:es.l.length<=cap) (h2:cap<=maxLen) (h3:w.heap[c.ρ r]?=some (.cells cur e (0,0))) (h4:cap*sz=cur.size) (Jx:iI c.I w es.l cur 0 sz) {vy:Value} (hs:Src P c w vy ys.l sz):
 ∃v' w' c',(Builtin.append_ #[t,tx] ty #[.slice (some ⟨c.ρ r,0,none⟩) es.l.length cap,vy]).run P w=.ok v' w'/\jE [r] c w c' w'/\(∀q,c'.R q=(rV [r] R 0++[some (⟨false,e,sz,es.app ys⟩:Row)]).getD q none)/\Rep c' w' (.all R.length) v':=by
 obtain⟨news,g1,g2,g3,g4⟩:=hs
 have hk:c.R R.length=none:=by rw[hR];simp[aK]
 have FH:(c.kill [r]).R R.length=none:=by simp[Ctx.kill,hk]
 have BZ:=YO (ks:=[r]) hm
 subst fw
 have hlen:(es.l.length+ys.l.length)*i.bytes<=140737488355328:=by rw[uD,fU];exact oA
 have Uc:es.l.length+ys.l.length<=140737488355328:=bH (fV _ (by rw[uD];exact pz)) hlen
 have YS:es.l.length+ys.l.length<=maxLen:=by unfold maxLen;omega
 obtain⟨kU,o1,o2,o3⟩:=Zhs Jx h0
 by_cases kO:es.l.length+ys.l.length<=cap
 ·have ra:es.l.length*i.size+0+news.length<=cur.size:=by rw[g1,<-h4,bG,<-bC];exact aV _ kO
  have jT:=run_storeCells_at (P:=P) (c.ρ r) (es.l.length*i.size) e news 0 cur w h3 ra (iI.one g4 g1)
  simp only[bG]at jT ra
  have ig:=Qmw (P:=P) w (ty:=ty) (n:=es.l.length) (cap:=cap) (a:=some ⟨c.ρ r,0,none⟩) ht pA hx hi g2 (by have:=g3 _ (aO _) w rfl;rwa [fK (by omega)]at this) kO (λb hb=>by cases hb;rw[Addr.add_lit,aX];exact jT) (λh=>by cases h)
  have hE:∀w',(∀b,c.I b->w'.heap[b]?=w.heap[b]?)->iI c.I w' (es.app ys).l (cur.toList.take (es.l.length*i.size)++news++cur.toList.drop (es.l.length*i.size+news.length)).toArray 0 i.size:=λw' h=>by
   rw[ao.j4]
   refine YR (A:=cur.toList.take (es.l.length*i.size)) (od (λb hb=>⟨hb,h b hb⟩) _ _ _ _ ?_) (by rw[bD,show cur.toList.length=cur.size from rfl];omega) (od (λb hb=>⟨hb,h b hb⟩) _ _ _ _ g4) g1
   have:cur.toList.take (es.l.length*i.size)=kU:=by
    apply List.ext_getElem?
    intro j
    by_cases hj:j<kU.length
    ·have:=o2 j _ (cG hj)
     rw[aU,if_pos (by omega),cG hj]
     simpa using this
    ·rw[aM (by rw[bD];omega),aM (by omega)]
   rw[this];exact o3
  obtain⟨k1,k2⟩:=qQ hm (k:=R.length) (ak:=⟨false,e,i.size,es.app ys⟩) q1 hV hk (by rw[Up];exact h3) Up.symm h0 rfl hE
  refine⟨_,_,_,ig,⟨k2,k1,(SB w _ _).mono λb _ hb=>⟨r,_,q1,hV,hb.symm⟩,λb hb=>.inl hb,λq ak p1 p2=>?_⟩,Uq (ρ':=c.ρ) (V':=c.V) hR,?_⟩
  ·by_cases e1:q=R.length
   ·subst e1
    exact .inr (.inl ⟨r,_,by simp[bw],q1,hV,by simp[Ctx.add]⟩)
   ·have o8:(c.kill [r]).R q=some ak:=by simpa[Ctx.add,e1]using p1
    obtain⟨_,j5,Js,_⟩:=oh o8
    exact .inl ⟨⟨j5,Js⟩,by simpa[Ctx.add,e1,Ctx.kill]using p2,by simp[Ctx.add,e1,Ctx.kill]⟩
  ·refine⟨⟨false,e,i.size,es.app ys⟩,by simp[Ctx.add],rfl,.inr ⟨by simp[Ctx.add],cap,(cur.toList.take (es.l.length*i.size)++news++cur.toList.drop (es.l.length*i.size+news.length)).toArray,?_,by rw[ao.j4,lA];exact kO,h2,?_,?_⟩⟩
   ·simp only[Ctx.add,if_true,ao.j4,lA]
   ·simp only[Ctx.add,if_true];exact setRow_heap w _ _ _ _ _ h3
   ·simp only[bA,lA,bD,bF,Array.length_toList]
    rw[h4];omega
 ·have ig:=Qn3 (P:=P) w (ty:=ty) (n:=es.l.length) (cap:=cap) (a:=some ⟨c.ρ r,0,none⟩) (kU:=kU) (news:=news) ht pA hx hi hz g2
   (by have:=g3 _ (aO _) w.drew rfl;rwa [fK (by omega)]at this)
   (run_firstCells_some (P:=P) w.drew i.size es.l.length _ _ cap kU o1 λj v hj=>by
    rw[vu (w:=w.drew) h3];exact o2 j v hj) (by omega) (by omega) (growslice_fits (by omega) hlen)
  have pJ:=grownCap_ge w (es.l.length+ys.l.length) cap e
  have Aw:grownCap w (es.l.length+ys.l.length) cap e<=maxLen:=grownCap_le_maxLen w _ _ e YS
  generalize grownCap w (es.l.length+ys.l.length) cap e=gc at ig pJ Aw
  have mj:(kU.toArray++news.toArray++Builtin.zeroCells z.cells (gc-(es.l.length+ys.l.length))).size=gc*i.size:=by
   have e1:(kU.toArray++news.toArray++Builtin.zeroCells z.cells (gc-(es.l.length+ys.l.length))).size=es.l.length*i.size+ys.l.length*i.size+(gc-(es.l.length+ys.l.length))*i.size:=by
    simp[size_zeroCells,FI,g1,o1]
   rw[e1,<-bC,<-bC]
   congr 1;omega
  have hE:∀(I:ag) (w':World),(∀b,c.I b->I b/\w'.heap[b]?=w.heap[b]?)->iI I w' (es.app ys).l (kU.toArray++news.toArray++Builtin.zeroCells z.cells (gc-(es.l.length+ys.l.length))) 0 i.size:=λI w' h=>by
   rw[ao.j4]
   have:=YR (I:=I) (w:=w') (es:=es.l) (ys:=ys.l) (A:=kU) (B:=news) (C:=(Builtin.zeroCells z.cells (gc-(es.l.length+ys.l.length))).toList) (sz:=i.size) (od h _ _ _ _ o3) o1 (od h _ _ _ _ g4) g1
   have h2:(kU.toArray++news.toArray++Builtin.zeroCells z.cells (gc-(es.l.length+ys.l.length)))=(kU++news++(Builtin.zeroCells z.cells (gc-(es.l.length+ys.l.length))).toList).toArray:=by apply fS;simp
   rw[h2];exact this
  have Ho:=Mem.alloc (w:=w.drew) (Ks BZ) FH ⟨false,e,i.size,es.app ys⟩ (kU.toArray++news.toArray++Builtin.zeroCells z.cells (gc-(es.l.length+ys.l.length))) h0 (by
   simp only[aN,if_false]
   exact hE _ _ λb hb=>⟨hb,rfl⟩)
  have oB:=YT (c:=c.kill [r]) (w:=w.drew) (k:=R.length) (e:=e) (sz:=i.size) (cap:=gc) (es:=es.app ys) (arr:=kU.toArray++news.toArray++Builtin.zeroCells z.cells (gc-(es.l.length+ys.l.length))) (by rw[ao.j4,lA];omega) Aw mj.symm
  refine⟨_,_,(c.kill [r]).add R.length ⟨false,e,i.size,es.app ys⟩ w.heap.size,ig,⟨Ho,(M6 _ w).trans (jk.alloc (w:=w.drew) (Ks BZ) FH _ _),?_,λb hb=>.inl hb,λq ak p1 p2=>?_⟩,Uq (ρ':=c.ρ) (V':=c.V) hR,by rw[ao.j4,lA]at oB;exact oB⟩
  ·exact Fr.trans (w':=w.drew) ⟨rfl,rfl,rfl,aO _,λ_ _ _=>rfl⟩ (Fr.alloc _ w.drew _)
  ·by_cases e1:q=R.length
   ·subst e1
    right;right
    simp[Ctx.add]
   ·have o8:(c.kill [r]).R q=some ak:=by simpa[Ctx.add,e1]using p1
    obtain⟨_,j5,Js,_⟩:=oh o8
    exact .inl ⟨⟨j5,Js⟩,by simpa[Ctx.add,e1,Ctx.kill]using p2,by simp[Ctx.add,e1,Ctx.kill]⟩
theorem Zpn{t tx ty:TypeId}{i:TypeInfo}{z:Value}{ux:TypeDesc}(ht:P.underlying t=some (.slice e))(pA:P.underlying tx=some ux)(hx:∀k,ux≠.int k)(hi:P.info? e=some i)(hz:i.zero=some z)(fw:i.size=sz)(uD:i.bytes=lO)(FI:z.cells.size=sz)
 (hm:Mem c w) (hb:c.base<=w.heap.size) (hR:∀r,c.R r=R.getD r none) (h0:0<sz) (pz:0<lO) (oA:lO*(es.l.length+ys.l.length)<=140737488355328) {r:Nat} (hr:R.getD r none=some ⟨false,e,sz,es⟩) {vx vy:Value} (YU:Rep c w (.all r) vx) (hs:Src P c w vy ys.l sz):
 ∃v' w' c',(Builtin.append_ #[t,tx] ty #[vx,vy]).run P w=.ok v' w'/\jE [r] c w c' w'/\(∀q,c'.R q=(rV [r] R 0++[some (⟨false,e,sz,es.app ys⟩:Row)]).getD q none)/\Rep c' w' (.all R.length) v':=by
 obtain⟨row,q1,q2,hv⟩:=YU
 have cb:row=⟨false,e,sz,es⟩:=by rw[hR,hr]at q1;exact(Option.some.inj q1).symm
 subst cb
 rcases hv with⟨hV,a,hv,Ay⟩|⟨hV,cap,cur,hv,h1,h2,h3,h4⟩
 ·have he:=(hm.oe q1 hV).2.1
  simp only at he
  subst hv
  have hl:(es.app ys).l=ys.l:=by rw[ao.j4,he];rfl
  exact append_empty (ks:=[r]) (ys:=es.app ys) ht pA hx hi hz fw uD FI hm hb hR h0 pz (by rw[hl];rw[he]at oA;simpa using oA) Ay (by rw[hl];exact hs)
 ·have hl:=hm.real q1 hV
  obtain⟨Nx,jB,_,Jx⟩:=hl
  simp only at h1 h3 h4 hv jB
  subst hv
  rw[h3]at jB;cases jB
  simp only[aN,if_false]at Jx
  exact Zh6 ht pA hx hi hz fw uD FI hm hb hR h0 pz oA q1 rfl hV h1 h2 h3 h4 Jx hs
theorem Zo0{n:Nat}{t tx ty:TypeId}{i:TypeInfo}{z:Value}{ux:TypeDesc}(ht:P.underlying t=some (.slice e))(pA:P.underlying tx=some ux)(hx:∀k,ux≠.int k)(hi:P.info? e=some i)(hz:i.zero=some z)(fw:i.size=sz)(uD:i.bytes=lO)(FI:z.cells.size=sz)
 (hm:Mem c w) (hb:c.base<=w.heap.size) (hR:∀r,c.R r=R.getD r none) (h0:0<sz) (pz:0<lO) (oA:lO*((es.take n).l.length+ys.l.length)<=140737488355328) {r:Nat} (hr:R.getD r none=some ⟨false,e,sz,es⟩) {vx vy:Value} (YU:Rep c w (.own r 0 n) vx) (hs:Src P c w vy ys.l sz):
 ∃v' w' c',(Builtin.append_ #[t,tx] ty #[vx,vy]).run P w=.ok v' w'/\jE [r] c w c' w'/\(∀q,c'.R q=(rV [r] R 0++[some (⟨false,e,sz,(es.take n).app ys⟩:Row)]).getD q none)/\Rep c' w' (.all R.length) v':=by
 obtain⟨row,q1,q2,hle,hv⟩:=YU
 have cb:row=⟨false,e,sz,es⟩:=by rw[hR,hr]at q1;exact(Option.some.inj q1).symm
 subst cb
 have hln:(es.take n).l.length=n:=by rw[ao.iY,bD];simp only at hle;omega
 rcases hv with⟨h0',a,hv,Ay⟩|⟨hV,cap,cur,h1,h2,h3,hv,h4⟩
 ·subst hv;subst h0'
  have Mi:(es.take 0).l=[]:=by rw[ao.iY];rfl
  have hl:((es.take 0).app ys).l=ys.l:=by rw[ao.j4,Mi];rfl
  have g:jk c w {c with top:=w.heap.size} w:=⟨rfl,hm.top,λb hb=>⟨hb,rfl⟩,λr row hr=>⟨row,hr,rfl,rfl,rfl,rfl,rfl,Iff.rfl,λnv arr ha=>⟨arr,ha,rfl⟩⟩⟩
  have Iv:Mem {c with top:=w.heap.size} w:=⟨λr row hr=>tS g rfl Iff.rfl (λ_=>rfl) (hm.row r row hr),hm.inj,hm.fu,aO _,hm.kM⟩
  have Gq:Ax w.heap.size a:=by
   rcases Ay with h|⟨hV,h⟩
   ·exact h.mono hm.top
   ·exactλx hx=>by rw[h x hx];exact hm.lt q1 hV
  obtain⟨v',w',c',p1,p2,p3,p4⟩:=append_empty (c:={c with top:=w.heap.size}) (ks:=[r]) (ys:=(es.take 0).app ys) ht pA hx hi hz fw uD FI Iv hb hR h0 pz (by rw[hl];rw[Mi]at oA;simpa using oA) Gq (by rw[hl];exact hs)
  refine⟨v',w',c',p1,⟨p2.mem,?_,p2.fr,p2.fu,p2.og⟩,p3,p4⟩
  have g':jk (c.kill [r]) w (Ctx.kill {c with top:=w.heap.size} [r]) w:=⟨rfl,hm.top,λb hb=>⟨hb,rfl⟩,λr row hr=>⟨row,hr,rfl,rfl,rfl,rfl,rfl,Iff.rfl,λnv arr ha=>⟨arr,ha,rfl⟩⟩⟩
  exact g'.trans p2.bz
 ·obtain⟨Nx,jB,_,Jx⟩:=hm.real q1 hV
  simp only at h3 h4 hv jB
  rw[h3]at jB;cases jB
  simp only[aN,if_false]at Jx
  have hE1:iI c.I w (es.take n).l cur 0 sz:=by rw[ao.iY];exact Mh Jx
  rw[hv,show((0:Nat)*sz)=0 from Nat.zero_mul _]
  have:=Zh6 (ty:=ty) (es:=es.take n) (cap:=cap) ht pA hx hi hz fw uD FI hm hb hR h0 pz oA q1 rfl hV (by rw[hln];exact h1) h2 h3 (by rw[<-h4,aX]) hE1 hs
  rw[hln]at this
  exact this
end
theorem SA{E:ao}(h:IE E=true):E.l=[]:=by
 unfold IE at h
 split at h
 ·rfl
 ·cases h
theorem Zmp{P:Program}{T:fq}(hT:jy P T){M:Nat}{t tx ty:TypeId}{x y:D}{R:Rows}{K:List Nat->D->Rows->Prop}(h:Mj T M t tx x y R K):
    ∃ ks R',K ks (.all R.length) R'/\(∀k,bw k ks=true->M<=k)/\ ∀c w vx vy,Mem c w->c.base<=w.heap.size->(∀r,c.R r=R.getD r none)->Rep c w x vx->Rep c w y vy->
      ∃v' w' c',(Builtin.append_ #[t,tx] ty #[vx,vy]).run P w= .ok v' w'/\jE ks c w c' w'/\(∀r,c'.R r=R'.getD r none)/\Rep c' w' (.all R.length) v':=by
  unfold Mj at h
  split at h
  . rename_i e iL _ _ _ _ _ ht
    have hk:=mU hT ht
    simp only at hk
    split at h
    . rename_i ke sz lO cs z q kx _ _ _ _ _ he htx
      obtain⟨i,u,hi,hu,Jy,hs,hb,hc,hzero⟩:=Jz hT he
      have Ur:=mU hT htx
      split at h
      . rename_i sy ys j0
        simp only[da,aE,Bool.or_eq_true]at h
        obtain⟨⟨⟨⟨h0,h1⟩,h2,h3⟩,h4,h5⟩,h⟩:=h
        have h0:0<sz:=lE h0
        have pz:0<lO:=lE h4
        have h2:=bE h2
        have h5:sy=sz\/ys.l=[]:=h5.imp bE SA
        have wQ:u.cells.size=sz:=by have:=PN Jy;simp at this;omega
        obtain⟨ux,pA,nE⟩: ∃ux,P.underlying tx=some ux/\ ∀k,ux≠ .int k:=by
          unfold CE at j0
          split at j0
          . simp only at Ur;exact⟨_,Ur.1,λk e=>by cases e⟩
          . simp only at Ur;exact⟨_,Ur,λk e=>by cases e⟩
          . cases j0
        have wR: ∀(c:Ctx) (w:World) (vy:Value),Mem c w->(∀r,c.R r=R.getD r none)->Rep c w y vy->Src P c w vy ys.l sz:=λc w vy hm hR hy=>v6 h0 j0 h5 hm (λr row ak g1 g2=>by rw[hR,g2]at g1;exact(Option.some.inj g1).symm) hy
        cases x<;>simp only at h
        case du=>
          simp only[CG,da,decide_eq_true_eq,nk,<-ao.iv]at h
          refine⟨_,_,h.2,λk hk=>by simp [bw]at hk,λc w vx vy hm tA hR hx hy=> ?_⟩
          rw[show vx=_ from hx]
          have hl:((ao.gen []).app ys).l=ys.l:=by rw[ao.j4];rfl
          exact append_empty (ks:=[]) (ys:=(ao.gen []).app ys) hk.1 pA nE hi hu hs hb wQ hm tA hR h0 pz (by rw[hl];have:=h.1;simpa [ao.l] using this) Qu (by rw[hl];exact wR c w vy hm hR hy)
        case emp=>
          simp only[CG,da,decide_eq_true_eq,nk,<-ao.iv]at h
          refine⟨_,_,h.2,λk hk=>by simp [bw]at hk,λc w vx vy hm tA hR hx hy=> ?_⟩
          obtain⟨a,hx,Ay⟩:=hx
          rw[hx]
          have hl:((ao.gen []).app ys).l=ys.l:=by rw[ao.j4];rfl
          exact append_empty (ks:=[]) (ys:=(ao.gen []).app ys) hk.1 pA nE hi hu hs hb wQ hm tA hR h0 pz (by rw[hl];have:=h.1;simpa [ao.l] using this) Ay (by rw[hl];exact wR c w vy hm hR hy)
        case all r=>
          split at h
          . rename_i jX s es hr
            simp only[aE,CG,da,decide_eq_true_eq,nk,<-ao.iv]at h
            obtain⟨⟨⟨g1,g2⟩,g3⟩,g5,g6⟩:=h
            have g1:=bE g1
            have g2:=bE g2
            subst g1;subst g2
            refine⟨_,_,g6,λk hk=> ?_,λc w vx vy hm tA hR hx hy=> ?_⟩
            . have:=oj.1 hk
              simp at this
              rw[this];exact lE g3
            . exact Zpn hk.1 pA nE hi hu hs hb wQ hm tA hR h0 pz g5 hr hx (wR c w vy hm hR hy)
          . exact h.elim
        case own r o n=>
          split at h
          . rename_i jX s es hr
            simp only[aE,CG,da,decide_eq_true_eq,nk,<-ao.iv]at h
            obtain⟨⟨⟨g1,g2⟩,g3,g4⟩,g5,g6⟩:=h
            have g1:=bE g1
            have g2:=bE g2
            have g4:=bE g4
            subst g1;subst g2;subst g4
            refine⟨_,_,g6,λk hk=> ?_,λc w vx vy hm tA hR hx hy=> ?_⟩
            . have:=oj.1 hk
              simp at this
              rw[this];exact lE g3
            . exact Zo0 hk.1 pA nE hi hu hs hb wQ hm tA hR h0 pz g5 hr hx (wR c w vy hm hR hy)
          . exact h.elim
      . exact h.elim
    . exact h.elim
  . exact h.elim
theorem Z25{c:Ctx}{w:World}{d:D}{v:Value}(gr:∀f cs,d≠.gn f cs)(h:cu c w d v):cu {c with base:=0} w d v:=by
 cases d with
 |sl sz es fr=>
  obtain⟨a,cap,hv,hc,ij⟩:=h
  refine⟨a,cap,hv,hc,?_⟩
  rcases ij with ij|⟨b,off,arr,ty,fz,ha,hI,hf,hh,hE⟩
  ·exact .inl ij
  ·exact .inr ⟨b,off,arr,ty,fz,ha,hI,λ_=>Nat.zero_le _,hh,hE⟩
 |gn f cs=>exact absurd rfl (gr f cs)
 |_=>exact h
theorem Qx{c:Ctx}{w:World}{d:D}{v:Value}(h:cu c w d v):cu {c with base:=0} w d v:=by
 by_cases e:∃g cs,d=.gn g cs
 ·obtain⟨g,cs,rfl⟩:=e
  obtain⟨us,hv,hu⟩:=h
  exact⟨us,hv,YN (c:=c) (w:=w) (c':={c with base:=0}) (w':=w) (S:=λ_=>True) (λd v q1 _ q2=>Z25 q1 q2) (λ_ hb=>⟨hb,rfl⟩) (λ_ _=>trivial) hu⟩
 ·exact Z25 (λf cs e'=>e ⟨f,cs,e'⟩) h
theorem Z2{c:Ctx}{w:World}:∀{ds:List D} {vs:List Value},jm c w ds vs->jm {c with base:=0} w ds vs
 |[],[],_=>trivial
 |_::_,_::_,h=>⟨Qx h.1,Z2 h.2⟩
 |[],_::_,h=>h.elim
 |_::_,[],h=>h.elim
theorem Z8y{c:Ctx}{w:World}{d:D}{v:Value}(h:VRep c w d v):VRep {c with base:=0} w d v:=by
 cases d with
 |agg cs=>obtain⟨vs,hv,hr⟩:=h;exact⟨vs,hv,Z2 hr⟩
 |_=>exact VRep.EL (Qx (VRep.toC (λcs e=>by cases e) h))
theorem YV{c:Ctx}{w:World}:∀{ds:List D} {vs:List Value},kb c w ds vs->kb {c with base:=0} w ds vs
 |[],[],_=>trivial
 |_::_,_::_,h=>⟨Z8y h.1,YV h.2⟩
 |[],_::_,h=>h.elim
 |_::_,[],h=>h.elim
theorem Qz8{c:Ctx}{w:World}:∀{ds:List D} {arr:Array Value} {off:Nat},kJ c w ds arr off->kJ {c with base:=0} w ds arr off
 |[],_,_,_=>trivial
 |_::_,_,_,⟨⟨v,hv,h1⟩,h2⟩=>⟨⟨v,hv,Qx h1⟩,Qz8 h2⟩
theorem Zf{c:Ctx}{w:World}(h:Mem c w):Mem {c with base:=0} w:=by
 refine⟨λr row hr=>?_,h.inj,h.fu,h.top,h.kM⟩
 rcases h.row r row hr with h0|⟨h0,arr,ha,hs,hx⟩
 ·exact .inl h0
 ·refine .inr ⟨h0,arr,ha,hs,?_⟩
  split
  ·rename_i hb
   rw[if_pos hb]at hx
   obtain⟨e,k1,k2,k3,k4⟩:=hx
   exact⟨e,k1,k2,k3,Qz8 k4⟩
  ·rename_i hb
   rw[if_neg hb]at hx
   exact hx
theorem Qyq{f:Nat->Nat}:∀{ids:List Nat} {rows:List Row} {R:Rows},ids.Nodup->ids.length<=rows.length->(∀r∈ids,r<R.length)->
 (FJ f ids rows R).length=R.length/\(∀(i r:Nat),ids[i]?=some r->∃row,rows[i]?=some row/\(FJ f ids rows R).getD r none=some (row.jg f false))/\∀r,r∉ids->(FJ f ids rows R).getD r none=R.getD r none
 |[],rows,R,_,_,_=>by
  have:FJ f [] rows R=R:=by cases rows<;>rfl
  rw[this]
  exact⟨rfl,λi r h=>by simp at h,λ_ _=>rfl⟩
 |r::ids,[],R,_,hl,_=>by simp at hl
 |r ::ids,row::rows,R,kZ,hl,cf=>by
  obtain⟨ID,JA⟩:=List.nodup_cons.1 kZ
  obtain⟨g1,g2,g3⟩:=Qyq (f:=f) (ids:=ids) (rows:=rows) (R:=R.set r (some (row.jg f false))) JA (by simpa using hl) (λq hq=>by simpa using cf q (by simp[hq]))
  have hr:=cf r (by simp)
  have YW:(R.set r (some (row.jg f false))).getD r none=some (row.jg f false):=by simp[aK,hr]
  have gr:∀q,q≠r->(R.set r (some (row.jg f false))).getD q none=R.getD q none:=λq hq=>by simp[aK,List.getElem?_set_ne (Ne.symm hq)]
  simp only[FJ]
  refine⟨by simpa using g1,λi q hq=>?_,λq hq=>?_⟩
  ·cases i with
   |zero=>
    simp at hq;subst hq
    exact⟨row,rfl,by rw[g3 _ ID];exact YW⟩
   |succ i=>simpa using g2 i q (by simpa using hq)
  ·have h1:q≠r:=λe=>hq (by simp[e])
   rw[g3 q (λe=>hq (by simp[e])),gr q h1]
def Ctx.ea(c:Ctx)(c':Ctx)(kl n0:Nat)(R2:Rows):Ctx:=
 { ρ:=λr=>if n0<=r/\r<R2.length then c'.ρ (kl+(r-n0)) else c.ρ r,
   R:=λr=>R2.getD r none,
   V:=λr=>if n0<=r/\r<R2.length then c'.V (kl+(r-n0)) else c.V r,
   I:=c'.I,base:=c.base,top:=c'.top,X:=c.X}
theorem Mk{i k n:Nat}:bw i (bK k n)=true↔k<=i/\i<k+n:=by
 rw[oj,List.mem_range'_1]
theorem Z9u{c c':Ctx}{w w':World}{R:Rows}{ids:List Nat}{k:Nat}{dz aj:List Row}(hm:Mem c w)(hR:∀r,c.R r=R.getD r none)
 (kZ:ids.Nodup) (cv:Bq R (λr=>pos r ids 0) ids=some dz) (hle:(ids.take k).length<=aj.length)
 (hx:jE (bK k (dz.length-k)) {c.pass w ids dz false with base:=0} w c' w') (jY:∀i,c'.R i=aj[i]?)
 {R2:Rows} (uE:R2=FJ (bk (ids.take k) R.length) (ids.take k) aj (rV (ids.drop k) R 0)++PO (bk (ids.take k) R.length) (aj.drop (ids.take k).length)):
 Em (λ_=>True) (bk (ids.take k) R.length) false c' (c.ea c' (ids.take k).length R.length R2)/\
 jE (ids.drop k) c w (c.ea c' (ids.take k).length R.length R2) w':=by
 obtain⟨gm,AQ⟩:=FK cv
 generalize hf:bk (ids.take k) R.length=f at*
 generalize YX:(ids.take k).length=kl at*
 have nU:∀r row,R.getD r none=some row->c.R r=some row:=λr row e=>by rw[hR];exact e
 have cf:∀r∈ids,r<R.length:=λr hr=>by
  obtain⟨row,h1,_⟩:=AQ _ r (Br hr)
  by_cases hl:r<R.length
  ·exact hl
  ·rw[aK,aM (by omega)]at h1;cases h1
 have htd:ids.take k++ids.drop k=ids:=List.take_append_drop k ids
 have YY:(ids.take k).Nodup:=by rw[<-htd]at kZ;exact(List.nodup_append.1 kZ).1
 have PQ:∀r,r∈ids.take k->r∈ids.drop k->False:=λr h1 h2=>by
  rw[<-htd]at kZ
  exact(List.nodup_append.1 kZ).2.2 r h1 r h2 rfl
 have Jay:kl=min k ids.length:=by rw[<-YX];simp
 have CH:∀i,i<kl->(ids.take k)[i]?=ids[i]? :=λi hi=>by rw[aU,if_pos (by omega)]
 have sO:∀i r,ids[i]?=some r->kl<=i->r∈ids.drop k:=λi r hi pJ=>by
  have mO:=(List.getElem?_eq_some_iff.1 hi).1
  have:(ids.drop k)[i-k]?=some r:=by rw[fT,show k+(i-k)=i by omega];exact hi
  exact fW this
 obtain⟨k1,k2,k3⟩:=Qyq (f:=f) (ids:=ids.take k) (rows:=aj) (R:=rV (ids.drop k) R 0) YY (by rw[YX];exact hle) (λr hr=>by rw[Jw];exact cf r (cX hr))
 rw[Jw]at k1
 have wc:R2.length=R.length+(aj.length-kl):=by rw[uE];simp[k1,PO]
 have PR:∀r,r<R.length->R2.getD r none=(FJ f (ids.take k) aj (rV (ids.drop k) R 0)).getD r none:=λr hr=>by
  rw[uE,aK,aK,aZ (by omega)]
 have YZ:∀i,kl<=i->i<aj.length->R2.getD (R.length+(i-kl)) none=aj[i]?.map λrow=>row.jg f false:=λi h1 h2=>by
  have:∀(l:List Row) (j:Nat),(PO f l)[j]?=l[j]?.map λrow=>some (row.jg f false):=λl j=>by simp[PO]
  rw[uE,aK,bB (by omega),this,k1,show R.length+(i-kl)-R.length=i-kl by omega,fT,show kl+(i-kl)=i by omega]
  rw[cG h2];rfl
 have jz:∀i r ak,i<kl->ids[i]?=some r->c'.R i=some ak->∃row,c.R r=some row/\ak.box=row.box/\ak.ty=row.ty/\ak.sz=row.sz/\ak.es.l.length=row.es.l.length/\c'.ρ i=c.ρ r/\(c'.V i↔c.V r)/\r<R.length/\R2.getD r none=some (ak.jg f false)/\f i=r/\
  (¬c.V r->∀arr,w.heap[c.ρ r]?=some (.cells arr row.ty (0,0))->∃iM,w'.heap[c.ρ r]?=some (.cells iM row.ty (0,0))/\iM.size=arr.size):=by
  intro i r ak nZ hi jl
  obtain⟨row,h1,h2⟩:=AQ i r hi
  have kC:=fW hi
  have h3:=nU r row h1
  have CI:(({c.pass w ids dz false with base:=0}:Ctx).kill (bK k (dz.length-k))).R i=some ((row.jg (λr=>pos r ids 0) false).kill (bK k (dz.length-k))):=by
   simp only[Ctx.kill,Ctx.pass]
   rw[if_neg (λe=>by have:=Mk.1 e;omega),h2];rfl
  obtain⟨ov,g1,g2,g3,g4,g5,g6,gV,g7⟩:=hx.bz.R i _ CI
  rw[jl]at g1;cases g1
  obtain⟨s1,s2,s3,s4⟩:=JB (λr=>pos r ids 0) false row
  obtain⟨t1,t2,t3,t4⟩:=wh (bK k (dz.length-k)) (row.jg (λr=>pos r ids 0) false)
  have iy:=(CH i nZ).trans hi
  obtain⟨kW,q1,q2⟩:=k2 i r iy
  rw[jY,q1]at jl;cases jl
  refine⟨row,h3,g2.trans (t1.trans s1),g3.trans (t2.trans s2),g4.trans (t3.trans s3),g5.trans (t4.trans s4),by simpa[Ctx.kill,Ctx.pass,hi]using g6,by simpa[Ctx.kill,Ctx.pass,hi]using gV,cf r kC,by rw[PR r (cf r kC)];exact q2,by rw[<-hf];simp[bk,iy],λnv arr ha=>?_⟩
  have:=g7 (by simpa[Ctx.kill,Ctx.pass,hi]using nv) arr (by simpa[Ctx.kill,Ctx.pass,hi,s2,t2]using ha)
  simpa[Ctx.kill,Ctx.pass,hi,s2,t2]using this
 have GG:∀i ak,c'.R i=some ak->¬c'.V i->(∃j s row,ids[j]?=some s/\c.R s=some row/\¬c.V s/\c'.ρ i=c.ρ s/\(i<kl->j=i)/\(kl<=i->s∈ids.drop k))\/w.heap.size<=c'.ρ i:=by
  intro i ak h1 nv
  by_cases nZ:i<kl
  ·have iy:ids[i]?=some ids[i]:=cG (by omega)
   obtain⟨row,g1,g2,g3,g4,g5,g6,g7,_⟩:=jz i _ ak nZ iy h1
   exact .inl ⟨i,_,row,iy,g1,λe=>nv (g7.2 e),g6,λ_=>rfl,λh=>by omega⟩
  ·rcases hx.og i ak h1 nv with⟨⟨x,nJ⟩,v,e⟩|⟨s,x,hs,nJ,v,e⟩|e
   ·have I4:dz[i]?=some x:=nJ
    have Hp:=(List.getElem?_eq_some_iff.1 I4).1
    have iy:ids[i]?=some ids[i]:=cG (by omega)
    obtain⟨row,g1,g2⟩:=AQ i _ iy
    exact .inl ⟨i,_,row,iy,nU _ _ g1,by simpa[Ctx.pass,iy]using v,by simpa[Ctx.pass,iy]using e,λh=>by omega,λ_=>sO i _ iy (by omega)⟩
   ·have I4:dz[s]?=some x:=nJ
    have Hp:=(List.getElem?_eq_some_iff.1 I4).1
    have iy:ids[s]?=some ids[s]:=cG (by omega)
    obtain⟨row,g1,g2⟩:=AQ s _ iy
    have hsk:=(Mk.1 hs).1
    exact .inl ⟨s,_,row,iy,nU _ _ g1,by simpa[Ctx.pass,iy]using v,by simpa[Ctx.pass,iy]using e,λh=>by omega,λ_=>sO s _ iy (by omega)⟩
   ·exact .inr e
 have new:∀i ak,kl<=i->c'.R i=some ak->i<aj.length/\R2.getD (R.length+(i-kl)) none=some (ak.jg f false)/\f i=R.length+(i-kl):=by
  intro i ak hi jl
  have h1:aj[i]?=some ak:=by rw[<-jY];exact jl
  have h2:=(List.getElem?_eq_some_iff.1 h1).1
  refine⟨h2,by rw[YZ i hi h2,h1];rfl,?_⟩
  rw[<-hf]
  simp only[bk]
  rw[aM (by omega),YX]
 have CJ:Em (λ_=>True) f false c' (c.ea c' kl R.length R2):=by
  refine⟨λi ak _ jl=>?_,(λh=>by cases h),aO _⟩
  obtain⟨s1,s2,s3,s4⟩:=JB f false ak
  by_cases hi:i<kl
  ·have iy:ids[i]?=some ids[i]:=cG (by omega)
   obtain⟨row,g1,g2,g3,g4,g5,g6,g7,g8,g9,g10,_⟩:=jz i _ ak hi iy jl
   rw[g10]
   exact⟨_,g9,s1,s2,s3,s4,by simp only[Ctx.ea];rw[if_neg (by omega),g6],by simp only[Ctx.ea];rw[if_neg (by omega)];exact g7.symm⟩
  ·obtain⟨h1,h2,h3⟩:=new i ak (by omega) jl
   rw[h3]
   have hc:R.length<=R.length+(i-kl)/\R.length+(i-kl)<R2.length:=by omega
   have he:kl+(R.length+(i-kl)-R.length)=i:=by omega
   exact⟨_,h2,s1,s2,s3,s4,by simp only[Ctx.ea];rw[if_pos hc,he],by simp only[Ctx.ea];rw[if_pos hc,he]⟩
 have BY:Fr (λb=>∃r x,c.R r=some x/\¬c.V r/\r∈ids/\c.ρ r=b) w w':=hx.fr.mono λb _ ⟨i,x,h1,h2,h3⟩=>by
  have o8:dz[i]?=some x:=h1
  have hi:i<ids.length:=by have:=(List.getElem?_eq_some_iff.1 o8).1;omega
  have iy:ids[i]?=some ids[i]:=cG hi
  obtain⟨row,g1,g2⟩:=AQ i _ iy
  exact⟨_,row,nU _ row g1,by simpa[Ctx.pass,iy]using h2,fW iy,by simpa[Ctx.pass,iy]using h3⟩
 have rest:∀r,r∉ids->r<R.length->R2.getD r none=(R.getD r none).map (Row.kill (ids.drop k)):=λr h1 h2=>by
  rw[PR r h2,k3 r (λe=>h1 (cX e)),PM,aX,if_neg (λe=>h1 (cY (oj.1 e)))]
 have gone:∀r,r∈ids.drop k->R2.getD r none=none:=λr h=>by
  rw[PR r (cf r (cY h)),k3 r (λe=>PQ r e h),PM,aX,if_pos (oj.2 h)]
 have inv:∀r x,(c.ea c' kl R.length R2).R r=some x->(∃i ak,c'.R i=some ak/\x=ak.jg f false/\(c.ea c' kl R.length R2).ρ r=c'.ρ i/\((c.ea c' kl R.length R2).V r↔c'.V i)/\(i<kl/\ids[i]?=some r/\(c.ea c' kl R.length R2).ρ r=c.ρ r/\((c.ea c' kl R.length R2).V r↔c.V r)\/R.length<=r/\kl<=i/\r=R.length+(i-kl)))\/
  (∃row,c.R r=some row/\x=row.kill (ids.drop k)/\r∉ids/\(c.ea c' kl R.length R2).ρ r=c.ρ r/\((c.ea c' kl R.length R2).V r↔c.V r)):=by
  intro r x jD
  have jD:R2.getD r none=some x:=jD
  by_cases kC:r∈ids
  ·by_cases hg:r∈ids.drop k
   ·rw[gone r hg]at jD;cases jD
   ·left
    have hp:=Br kC
    have Bs:pos r ids 0<kl:=by
     by_cases h:pos r ids 0<kl
     ·exact h
     ·exact(hg (sO _ r hp (by omega))).elim
    obtain⟨kW,q1,q2⟩:=k2 _ r ((CH _ Bs).trans hp)
    have ry:c'.R (pos r ids 0)=some kW:=by rw[jY];exact q1
    obtain⟨row,g1,g2,g3,g4,g5,g6,g7,g8,g9,g10,_⟩:=jz _ r kW Bs hp ry
    rw[g9]at jD
    cases jD
    have e1:(c.ea c' kl R.length R2).ρ r=c.ρ r:=by simp only[Ctx.ea];rw[if_neg (by omega)]
    have e2:(c.ea c' kl R.length R2).V r↔c.V r:=by simp only[Ctx.ea];rw[if_neg (by omega)]
    exact⟨_,kW,ry,rfl,by rw[e1,g6],by rw[e2,g7],.inl ⟨Bs,hp,e1,e2⟩⟩
  ·by_cases hc:R.length<=r
   ·left
    have Us:r<R2.length:=by
     by_cases h:r<R2.length
     ·exact h
     ·rw[aK,aM (by omega)]at jD;cases jD
    have hi:kl+(r-R.length)<aj.length:=by omega
    have ry:c'.R (kl+(r-R.length))=some aj[kl+(r-R.length)]:=by rw[jY];exact cG hi
    obtain⟨h1,h2,h3⟩:=new _ _ (by omega) ry
    rw[show R.length+(kl+(r-R.length)-kl)=r by omega]at h2
    rw[h2]at jD
    cases jD
    exact⟨_,_,ry,rfl,by simp only[Ctx.ea];rw[if_pos ⟨hc,Us⟩],by simp only[Ctx.ea];rw[if_pos ⟨hc,Us⟩],.inr ⟨hc,by omega,by omega⟩⟩
   ·right
    rw[rest r kC (by omega)]at jD
    simp only[fQ]at jD
    obtain⟨row,h1,h2⟩:=jD
    exact⟨row,nU r row h1,h2.symm,kC,by simp only[Ctx.ea];rw[if_neg (by omega)],by simp only[Ctx.ea];rw[if_neg (by omega)]⟩
 have apart:∀r row i ak,c.R r=some row->r∉ids->¬c.V r->c'.R i=some ak->¬c'.V i->c'.ρ i≠c.ρ r:=λr row i ak h1 h2 h3 h4 h5 e=>by
  rcases GG i ak h4 h5 with⟨j,s,jx,q1,q2,q3,q4,_⟩|q
  ·have:=hm.inj s r jx row q2 h1 q3 h3 (by rw[<-q4,e])
   subst this
   exact h2 (fW q1)
  ·have:=hm.lt h1 h3;omega
 have pT:jk (c.kill (ids.drop k)) w (c.ea c' kl R.length R2) w':=by
  refine⟨rfl,hx.bz.top,λb iz=>?_,λr x hr=>?_⟩
  ·have h1:(({c.pass w ids dz false with base:=0}:Ctx).kill (bK k (dz.length-k))).I b:=.inl iz
   exact⟨(hx.bz.I b h1).1,(hx.bz.I b h1).2⟩
  ·obtain⟨Ut,row,cb,rfl⟩:=oh hr
   have Ut:r∉ids.drop k:=λe=>by rw[oj.2 e]at Ut;cases Ut
   obtain⟨u1,u2,u3,u4⟩:=wh (ids.drop k) row
   by_cases kC:r∈ids
   ·have hp:=Br kC
    have Bs:pos r ids 0<kl:=by
     by_cases h:pos r ids 0<kl
     ·exact h
     ·exact(Ut (sO _ r hp (by omega))).elim
    obtain⟨kW,q1,q2⟩:=k2 _ r ((CH _ Bs).trans hp)
    have ry:c'.R (pos r ids 0)=some kW:=by rw[jY];exact q1
    obtain⟨j5,g1,g2,g3,g4,g5,g6,g7,g8,g9,g10,g11⟩:=jz _ r kW Bs hp ry
    rw[cb]at g1;cases g1
    obtain⟨s1,s2,s3,s4⟩:=JB f false kW
    refine⟨_,g9,s1.trans (g2.trans u1.symm),s2.trans (g3.trans u2.symm),s3.trans (g4.trans u3.symm),s4.trans (g5.trans u4.symm),by simp only[Ctx.ea];rw[if_neg (by omega)];rfl,by simp only[Ctx.ea];rw[if_neg (by omega)];rfl,λnv arr ha=>?_⟩
    rw[u2]at ha⊢
    exact g11 nv arr ha
   ·have rz:r<R.length:=by
     by_cases h:r<R.length
     ·exact h
     ·rw[hR,aK,aM (by omega)]at cb;cases cb
    refine⟨row.kill (ids.drop k),?_,rfl,rfl,rfl,rfl,by simp only[Ctx.ea];rw[if_neg (by omega)];rfl,by simp only[Ctx.ea];rw[if_neg (by omega)];rfl,λnv arr ha=>⟨arr,?_,rfl⟩⟩
    ·show R2.getD r none=_
     rw[rest r kC rz,<-hR,cb];rfl
    ·have nv:¬c.V r:=nv
     show w'.heap[c.ρ r]?=_
     rw[BY.heap _ (hm.lt cb nv) fun⟨s,x,h1,h2,h3,h4⟩=>kC (by rw[<-hm.inj s r x row h1 cb h2 nv h4];exact h3)]
     exact ha
 refine⟨CJ,⟨λr x jD=>?_,λr s x y hr hs v1 v2 he=>?_,λb iz=>⟨(hx.mem.fu b iz).1,λr x hr v=>?_⟩,hx.mem.top,hx.mem.kM⟩,pT,BY.mono λb _ ⟨r,x,h1,h2,_,h4⟩=>⟨r,x,h1,h2,h4⟩,λb iz=>?_,λr x hr v=>?_⟩
 ·rcases inv r x jD with⟨i,ak,h1,rfl,h3,h4,_⟩|⟨row,h1,rfl,h2,h3,h4⟩
  ·exact Y0 CJ (flat:=False) (.inl λb hb=>hb) h3 h4 (λ_ _ _ _ _=>trivial) (λe=>e.elim) (hx.mem.row i ak h1)
  ·have hk:=Zlt (ks:=ids.drop k) (hm.row r row h1)
   exact tS pT h3 h4 (λnv=>BY.heap _ (hm.lt h1 nv) fun⟨s,x',g1,g2,g3,g4⟩=>h2 (by rw[<-hm.inj s r x' row g1 h1 g2 nv g4];exact g3)) hk
 ·rcases inv r x hr with⟨i,x',h1,_,h3,h4,h5⟩|⟨row,h1,_,h2,h3,h4⟩<;>rcases inv s y hs with⟨j,y',g1,_,g3,g4,g5⟩|⟨jx,g1,_,g2,g3,g4⟩
  ·have:i=j:=hx.mem.inj i j x' y' h1 g1 (λe=>v1 (h4.2 e)) (λe=>v2 (g4.2 e)) (by rw[<-h3,<-g3];exact he)
   subst this
   rcases h5 with⟨q0,q1,_⟩|⟨_,q1,q2⟩<;>rcases g5 with⟨p0,p1,_⟩|⟨_,p1,p2⟩
   ·rw[q1]at p1;exact Option.some.inj p1
   ·omega
   ·omega
   ·omega
  ·exact(apart s jx i x' g1 g2 (λe=>v2 (g4.2 e)) h1 (λe=>v1 (h4.2 e)) (by rw[<-h3,<-g3];exact he)).elim
  ·exact(apart r row j y' h1 h2 (λe=>v1 (h4.2 e)) g1 (λe=>v2 (g4.2 e)) (by rw[<-h3,<-g3];exact he.symm)).elim
  ·exact hm.inj r s row jx h1 g1 (λe=>v1 (h4.2 e)) (λe=>v2 (g4.2 e)) (by rw[<-h3,<-g3];exact he)
 ·rcases inv r x hr with⟨i,x',h1,_,h3,h4,h5⟩|⟨row,h1,_,h2,h3,h4⟩
  ·rw[h3];exact(hx.mem.fu b iz).2 i x' h1 (λe=>v (h4.2 e))
  ·have nv:¬c.V r:=λe=>v (h4.2 e)
   rw[h3]
   rcases hx.fu b iz with q|⟨s,z,q1,q2,q3,q4⟩|q
   ·rcases q with q|⟨q,_⟩
    ·exact(hm.fu b q).2 r row h1 nv
    ·cases q
   ·intro e
    have hz:dz[s]?=some z:=q2
    have Hp:=(List.getElem?_eq_some_iff.1 hz).1
    have iy:ids[s]?=some ids[s]:=cG (by omega)
    obtain⟨jx,g1,g2⟩:=AQ s _ iy
    have:=hm.inj _ r jx row (nU _ _ g1) h1 (by simpa[Ctx.pass,iy]using q3) nv (by rw[e];simpa[Ctx.pass,iy]using q4)
    exact h2 (by rw[<-this];exact fW iy)
   ·have:=hm.lt h1 nv;omega
 ·rcases hx.fu b iz with q|⟨s,z,q1,q2,q3,q4⟩|q
  ·rcases q with q|⟨q,_⟩
   ·exact .inl q
   ·cases q
  ·have hz:dz[s]?=some z:=q2
   have Hp:=(List.getElem?_eq_some_iff.1 hz).1
   have iy:ids[s]?=some ids[s]:=cG (by omega)
   obtain⟨jx,g1,g2⟩:=AQ s _ iy
   have hsk:=(Mk.1 q1).1
   exact .inr (.inl ⟨_,jx,oj.2 (sO s _ iy (by omega)),nU _ _ g1,by simpa[Ctx.pass,iy]using q3,by simpa[Ctx.pass,iy]using q4⟩)
  ·exact .inr (.inr q)
 ·rcases inv r x hr with⟨i,x',h1,_,h3,h4,h5⟩|⟨row,h1,_,h2,h3,h4⟩
  ·rcases h5 with⟨q0,q1,q2,q3⟩|⟨q0,q1,q2⟩
   ·obtain⟨row,g1,_⟩:=jz i r x' q0 q1 h1
    exact .inl ⟨⟨row,g1⟩,λe=>v (q3.2 e),q2⟩
   ·rcases GG i x' h1 (λe=>v (h4.2 e))with⟨j,s,jx,p1,p2,p3,p4,_,p5⟩|p
    ·exact .inr (.inl ⟨s,jx,oj.2 (p5 q1),p2,p3,by rw[h3];exact p4⟩)
    ·exact .inr (.inr (by rw[h3];exact p))
  ·exact .inl ⟨⟨row,h1⟩,λe=>v (h4.2 e),h3⟩
def Hq(P:Program)(f:FuncId)(args:List Operand)(ev:Operand->D)(R:Rows)(ks:List Nat)(val:D)(R':Rows):Prop:=
 ∀ (c:Ctx) (w:World) (ρ:Operand->Value),Mem c w->c.base<=w.heap.size->(∀r,c.R r=R.getD r none)->(∀y∈args,Rep c w (ev y) (ρ y))->
  ∀K':Value->World->Prop,(∀v w' c',jE ks c w c' w'->(∀r,c'.R r=R'.getD r none)->Rep c' w' val v->K' v w')->Gw P c.I f (args.map ρ) w λe w'=>∃v,e=.returned v/\K' v w'
theorem Wo{P:Program}{G:List bc}{M:Nat}(hG:jW P G){f:FuncId}{k:Nat}{args:List Operand}{ev:Operand->D}{R:Rows}{K:List Nat->D->Rows->Prop}
 (lP:o7 G f=some k) (h:Im G M f k (args.map ev) R K):∃ks val R' x,K ks val R'/\oO G f=some x/\(x.refs≠[])/\(∀j,bw j ks=true->M<=j)/\Hq P f args ev R ks val R':=by
 unfold Im at h
 split at h
 ·rename_i x hx
  have wj:x.gone=some k:=by simpa[o7,hx]using lP
  obtain⟨dw,hf⟩:=Gh hG hx
  split at h
  ·rename_i az dz has iR
   simp only[da,aE]at h
   obtain⟨⟨⟨⟨hv,nn⟩,h1,h2⟩,h3,h4⟩,h⟩:=h
   generalize JC:my R x.refs (args.map ev)=ids at*
   have uF:=Ml.1 h1
   have gm:=Ml.1 h2
   have kZ:=Mm.1 h3
   have Hr:lL x.refs (args.map ev)=[]:=by
    revert hv
    cases lL x.refs (args.map ev)<;>simp
   have hrefs:x.refs≠[]:=λe=>by rw[e]at nn;simp at nn
   have main:∀res aj,Hs R (ids.take k) (ids.drop k) res aj K->sF P x.f k az dz res aj->
    ∃ks val R' y,K ks val R'/\oO G f=some y/\(y.refs≠[])/\(∀j,bw j ks=true->M<=j)/\Hq P f args ev R ks val R':=by
    intro res aj hK hA
    simp only[Hs,da,D.cg,nk]at hK
    obtain⟨hle,hK⟩:=hK
    have hle:=lE hle
    refine⟨_,_,_,x,hK,hx,hrefs,λj hj=>lE (List.all_eq_true.1 h4 j (oj.1 hj)),λc w ρ hm hb hR ep K' re=>?_⟩
    have nU:∀r row,r∈ids->R.getD r none=some row->c.R r=some row:=λr row _ e=>by rw[hR];exact e
    have o4:mH c R:=λr row ak g1 g2=>by rw[hR,g2]at g1;exact(Option.some.inj g1).symm
    have hn:=Uu (len:=false) (w:=w) nU iR
    have gb:=Mn (len:=false) (ρ:=ρ) hm o4 hn has (λe=>(e Hr).elim) (λr hr=>by rw[Hr]at hr;cases hr) uF ep
    have mi:=hA _ w _ (Zf (Y1 (len:=false) hm nU kZ gm iR)) rfl (λr=>rfl) (YV gb)
    rw[hf]at mi
    refine mi.mono (λb hb=>.inl hb) (λe w' sP=>?_)
    obtain⟨v,c',he,nE,jY,kP⟩:=sP
    have:=Z9u (k:=k) hm hR kZ iR hle nE jY rfl
    exact⟨v,he,re v w' _ this.2 (λr=>rfl) (Y2 this.1 (flat:=False) (.inl λb hb=>hb) (λ_=>trivial) (λe=>e.elim) kP)⟩
   split at h
   ·rename_i α v res aj hm
    exact main _ _ (h v rfl) (dw.PS k wj _ _ _ _ _ _ hm)
   ·rename_i p α v res aj hm
    exact main _ _ (h.2 v rfl) (dw.Ht k wj _ _ _ _ _ _ _ hm h.1)
   ·exact h.elim
  ·exact h.elim
 ·exact h.elim
theorem Zna{P:Program}{G:List bc}{M:Nat}(hG:jW P G){f:FuncId}(hy:f<YB){dst:Option Tmp}{k:Nat}{args:Array Operand}{dc:Array TypeId}{type:TypeId}{pos':String}{after:Array Edge}{guard:Option (Nat×Bool)}{ev:Operand->D}{R:Rows}{K:List Nat->D->Rows->Prop}
 (lP:o7 G f=some k) (h:Im G M f k (args.toList.map ev) R K):∃ks val R' x,K ks val R'/\oO G f=some x/\(x.refs≠[])/\(∀j,bw j ks=true->M<=j)/\BN P ⟨dst,.call ⟨.value (.func f),args,dc⟩,type,pos',after,guard⟩ ev R ks val R':=by
 obtain⟨ks,val,R',x,h1,h2,h3,h4,h5⟩:=Wo hG lP h
 obtain⟨dw,hf⟩:=Gh hG h2
 refine⟨ks,val,R',x,h1,h2,h3,h4,λc w a hm hb hR ep K' Q re=>?_⟩
 subst hf
 exact Y3 dw rfl hy ((h5 c w a.eval hm hb hR (λy hy=>ep y (by simp[Op.operands,Call.operands];exact .inr (by simpa using hy))) (λv w'=>K' (a.put dst v) w') λv w' c'=>re v w' c').1 hy)
def Ctx.only(c:Ctx)(ks:List Nat):Ctx:={c with R:=λr=>if bw r ks=true then(match c.R r with|some row=>if row.box=true then none else some row|none=>none)else none}
theorem Mo{c:Ctx}{ks:List Nat}{r:Nat}{x:Row}(h:(c.only ks).R r=some x):r∈ks/\c.R r=some x/\x.box=false:=by
 simp only[Ctx.only]at h
 split at h
 ·rename_i hm
  split at h
  ·rename_i row hr
   split at h
   ·cases h
   ·rename_i hb
    cases h
    exact⟨oj.1 hm,hr,by simpa using hb⟩
  ·cases h
 ·cases h
theorem qv{c:Ctx}{ks:List Nat}{r:Nat}{x:Row}(hm:r∈ks)(hr:c.R r=some x)(hb:x.box=false):(c.only ks).R r=some x:=by
 simp[Ctx.only,oj.2 hm,hr,hb]
theorem xQ{c:Ctx}{w:World}(hm:Mem c w)(ks:List Nat):Mem (c.only ks) w:=by
 refine⟨λr x hr=>?_,λr s x y hr hs=>?_,λb hb=>⟨(hm.fu b hb).1,λr x hr v=>?_⟩,hm.top,hm.kM⟩
 ·obtain⟨_,h1,h2⟩:=Mo hr
  rcases hm.row r x h1 with h|⟨h0,arr,ha,hs,hx⟩
  ·exact .inl h
  ·refine .inr ⟨h0,arr,ha,hs,?_⟩
   rw[if_neg (by rw[h2];simp)]at hx⊢
   exact hx
 ·exact hm.inj r s x y (Mo hr).2.1 (Mo hs).2.1
 ·exact(hm.fu b hb).2 r x (Mo hr).2.1 v
theorem Zgt{c:Ctx}{w:World}{R:Rows}{ks:List Nat}{d d':D}{v:Value}(h:FL R d=some d')(hl:∀r∈nM d,r∈ks)(hr:cu c w d v):cu (c.only ks) w d v:=by
 cases d<;>simp only[FL]at h<;>try(cases h;done)
 case all r=>
  obtain⟨row,g1,g2,g3⟩:=hr
  exact⟨row,qv (hl r (by simp[nM])) g1 g2,g2,g3⟩
 case own r o n=>
  obtain⟨row,g1,g2,g3,g4⟩:=hr
  exact⟨row,qv (hl r (by simp[nM])) g1 g2,g2,g3,g4⟩
 all_goals exact hr
theorem Zec{c:Ctx}{w:World}{R:Rows}{ks:List Nat}:∀{ds om:List D} {vs:List Value},JD R ds=some om->(∀r∈pU ds,r∈ks)->jm c w ds vs->jm (c.only ks) w ds vs
 |[],_,[],_,_,_=>trivial
 |d ::ds,om,v::vs,h,hl,hr=>by
  simp only[JD]at h
  split at h
  ·rename_i x xs h1 h2
   exact⟨Zgt h1 (λr e=>hl r (by simp[pU,e])) hr.1,Zec h2 (λr e=>hl r (by simp[pU,e])) hr.2⟩
  ·cases h
 |[],_,_::_,_,_,h=>h.elim
 |_::_,_,[],_,_,h=>h.elim
theorem zQ{c:Ctx}{w:World}{R:Rows}{ks:List Nat}{d d':D}{v:Value}(h:conv R d=some d')(hl:∀r∈FM d,r∈ks)(hr:Rep c w d v):Rep (c.only ks) w d v:=by
 cases d with
 |agg cs=>
  simp only[conv,fQ]at h
  obtain⟨xs,h1,_⟩:=h
  obtain⟨vs,hv,hx⟩:=hr
  exact⟨vs,hv,Zec h1 hl hx⟩
 |dt ds=>simp[conv,FL]at h
 |dead=>trivial
 |_=>
  simp only[conv]at h
  simp only[Rep,VRep]at hr⊢
  exact Zgt h hl hr
theorem Z7y{R:Rows}{f:Nat->Nat}{ev:Operand->D}:∀{xs:List Operand} {az:List D},sQ R f [] (xs.map ev)=some az->∀x∈xs,∃y,conv R (ev x)=some y
 |[],_,_,x,hx=>by simp at hx
 |y ::xs,az,h,x,hx=>by
  simp only[fR,sQ]at h
  split at h
  ·rename_i z zs h1 h2
   simp only[cS]at hx
   rcases hx with rfl|hx
   ·exact⟨_,h1⟩
   ·exact Z7y h2 x hx
  ·cases h
theorem Z91{ev:Operand->D}{r:Nat}:∀{xs:List Operand} {x:Operand},x∈xs->r∈FM (ev x)->r∈lL [] (xs.map ev)
 |y::xs,x,hx,hr=>by
  simp only[fR,lL,bX]
  simp only[cS]at hx
  rcases hx with rfl|hx
  ·exact .inl hr
  ·exact .inr (Z91 hx hr)
theorem Y4{r:Nat}:∀{l ids:List Nat},r∈lI ids l->r∈ids\/r∈l
 |[],ids,h=>.inl h
 |x ::l,ids,h=>by
  simp only[lI]at h
  split at h
  ·rcases Y4 h with h|h
   ·exact .inl h
   ·exact .inr (by simp[h])
  ·rcases Y4 h with h|h
   ·simp only[bX,List.mem_singleton]at h
    rcases h with h|h
    ·exact .inl h
    ·exact .inr (by simp[h])
   ·exact .inr (by simp[h])
theorem xv{c:Ctx}{w:World}{d:D}{v:Value}(h:Rep c w d v):Rep {c with base:=0} w d v:=by
 cases d with
 |dt ds=>obtain⟨vs,hv,hx⟩:=h;exact⟨vs,hv,YV hx⟩
 |dead=>trivial
 |_=>exact Rep.Ky (Z8y (Rep.toV (λds e=>by cases e) (λe=>by cases e) h))
theorem yQ{P:Program}{G:List bc}{M:Nat}(hG:jW P G){dst:Option Tmp}{f:FuncId}{args:Array Operand}{dc:Array TypeId}{type:TypeId}{pos':String}{after:Array Edge}{guard:Option (Nat×Bool)}{ev:Operand->D}{R:Rows}{K:List Nat->D->Rows->Prop}
 (lP:o7 G f=none) (h:CK G M f (args.toList.map ev) R K):∃ks val R' x,K ks val R'/\oO G f=some x/\(∀j,bw j ks=true->M<=j)/\BN P ⟨dst,.call ⟨.value (.func f),args,dc⟩,type,pos',after,guard⟩ ev R ks val R':=by
 unfold CK at h
 split at h
 ·rename_i x hx
  have wj:x.gone=none:=by simpa[o7,hx]using lP
  obtain⟨dw,hf⟩:=Gh hG hx
  split at h
  ·rename_i az dz has iR
   simp only[da,aE]at h
   obtain⟨⟨⟨nn,wS⟩,h3,uF,h4⟩,h⟩:=h
   have Jaz:∀r,r∈lI [] (lL [] (args.toList.map ev))->r∈lL [] (args.toList.map ev):=λr hr=>by
    rcases Y4 hr with h|h
    ·cases h
    ·exact h
   generalize JC:lI [] (lL [] (args.toList.map ev))=ids at*
   have kZ:=Mm.1 h3
   have uF:=Ml.1 uF
   have main :∀res aj,Hs R [] ids res aj K->Q3 P x.f az [] res aj->
    ∃ks val R' y,K ks val R'/\oO G f=some y/\(∀j,bw j ks=true->M<=j)/\BN P ⟨dst,.call ⟨.value (.func f),args,dc⟩,type,pos',after,guard⟩ ev R ks val R':=by
    intro res aj hK hA
    simp only[Hs,da,D.cg,nk]at hK
    obtain⟨_,hK⟩:=hK
    refine⟨_,_,_,x,hK,hx,λj hj=>lE (List.all_eq_true.1 h4 j (oj.1 hj)),λc w a hm hb hR ep K' Q re=>?_⟩
    have o4:mH (c.only ids) R:=λr row ak g1 g2=>by
     have:=(Mo g1).2.1
     rw[hR,g2]at this;exact(Option.some.inj this).symm
    have hmo:=xQ hm ids
    have hn:=Uu (c:=c.only ids) (R:=R) (ids:=[]) (dz:=[]) (len:=true) (w:=w) (λr row e=>by cases e) rfl
    have Y5:∀y∈args.toList,Rep (c.only ids) w (ev y) (a.eval y):=λy hy=>by
     obtain⟨z,hz⟩:=Z7y has y hy
     exact zQ hz (λr hr=>uF r (Z91 hy hr)) (ep y (by simp[Op.operands,Call.operands];exact .inr (by simpa using hy)))
    rw[Y6 (λr=>r) (λr=>pos r [] 0)]at has
    have gb:=Mn (len:=true) (ρ:=a.eval) hmo o4 hn has (λ_=>rfl) (λr _ e=>by cases e) (λr e=>by rw[Y7]at e;cases e) Y5
    have mi:=hA _ w _ (Y1 (R:=R) (len:=true) hmo (λr row e=>by cases e) (by simp) (λr e=>by simp[CL]at e) rfl) rfl (λr=>rfl) gb
    refine Y3 dw hf (dw.real wj) (mi.mono λe w' sP=>?_)
    obtain⟨v,c',he,nE,jY,kP⟩:=sP
    have Gx:∀r x,((c.only ids).pass w [] [] true).R r=some x->False:=λr x h=>by simp[Ctx.pass]at h
    obtain⟨gm,AQ⟩:=FK iR
    have hxK:jE (bK 0 (dz.length-0)) {c.pass w ids dz false with base:=0} w {c' with base:=0} w':=by
     refine⟨Zf nE.mem,⟨rfl,nE.bz.top,λb iz=>?_,λr x hr=>?_⟩,nE.fr.mono λb _ ⟨r,x,h1,_⟩=>(Gx r x h1).elim,λb iz=>?_,λr x hr hv=>?_⟩
     ·have:c.I b:=by
       rcases iz with h|⟨h,_⟩
       ·exact h
       ·cases h
      exact⟨(nE.bz.I b (.inl this)).1,(nE.bz.I b (.inl this)).2⟩
     ·obtain⟨h1,row,h2,_⟩:=oh hr
      have Mg:dz[r]?=some row:=h2
      have:=(List.getElem?_eq_some_iff.1 Mg).1
      rw[Mk.2 (by omega)]at h1;cases h1
     ·rcases nE.fu b iz with h|h
      ·rcases h with h|⟨_,r,row,g1,g2,g3,_,g5⟩
       ·exact .inl (.inl h)
       ·obtain⟨k1,k2,k3⟩:=Mo g1
        have hp:=Br k1
        obtain⟨jx,q1,q2⟩:=AQ _ r hp
        have hl:=(List.getElem?_eq_some_iff.1 q2).1
        exact .inr (.inl ⟨_,_,Mk.2 (by omega),q2,by simpa[Ctx.pass,Ctx.only,hp]using g2,by simpa[Ctx.pass,Ctx.only,hp]using g5⟩)
      ·exact .inr (.inr h)
     ·rcases nE.og r x hr hv with⟨⟨y,h1⟩,_⟩|h
      ·exact(Gx r y h1).elim
      ·exact .inr (.inr h)
    have:=Z9u (k:=0) (c':={c' with base:=0}) hm hR kZ iR (by simp) hxK jY rfl
    simp only[List.take_zero,List.drop_zero]at this
    exact⟨v,he,re v w' _ this.2 (λr=>rfl) (Y2 this.1 (flat:=False) (.inl λb hb=>hb) (λ_=>trivial) (λe=>e.elim) (xv kP))⟩
   split at h
   ·rename_i α v res aj hm
    exact main _ _ (h v rfl) (dw.abs wj _ _ _ _ _ _ hm).1
   ·rename_i p α v res aj hm
    exact main _ _ (h.2 v rfl) (dw.lM wj _ _ _ _ _ _ _ hm h.1).1
   ·exact h.elim
  ·exact h.elim
 ·exact h.elim
