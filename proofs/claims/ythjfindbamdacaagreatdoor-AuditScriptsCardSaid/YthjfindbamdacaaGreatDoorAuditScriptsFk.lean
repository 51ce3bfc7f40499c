import Derived.Test.YthjfindbamdacaaGreatDoorAuditScriptsFo
import Derived.Laws.Append
import Derived.Laws.CopyRow
import Derived.Laws.AppendOwn
open List renaming eq_nil_of_length_eq_zero->fP,map_cons->fR,append_assoc->fF,getElem?_take->aU,getElem?_drop->fT,getElem?_toArray->aY,getD->aK,length_take->bD,length_drop->bF,getElem?_append_left->aZ,size_toArray->bA,getElem?_append_right->bB,getElem?_eq_none->aM,take_of_length_le->fM,getElem?_eq_getElem->cG,range'->bK,mem_of_getElem?->fW,mem_of_mem_take->cX,mem_of_mem_drop->cY,mem_cons->cS,mem_append->bX
open Bool renaming false_eq_true->aN
open Option renaming map_eq_some_iff->fQ
open Nat renaming add_zero->bG,succ_mul->aW,mul_le_mul_right->aV,zero_add->aX,mul_comm->fU,le_refl->aO,add_mul->bC,le_trans->bH,le_mul_of_pos_right->fV
open Array renaming ext'->fS
set_option linter.all false
namespace Go.GD
open Go
section
variable {c:Ctx} {w:World} {ks:List Nat}
theorem wq(ks:List Nat)(row:Row):(row.kill ks).box=row.box/\(row.kill ks).ty=row.ty/\(row.kill ks).sz=row.sz/\(row.kill ks).es.l.length=row.es.l.length:=by
 unfold Row.kill;split<;>exact⟨rfl,rfl,rfl,rfl⟩
theorem Qzg:∀{e:List D},(D.kA ks e).length=e.length
 |[]=>rfl
 |d::l=>by simp[D.kA,Qzg (e:=l)]
theorem Z8o{d:D}{v:Value}(gl:∀f cs,d≠.gq f cs)(h:cv c w d v):cv (c.kill ks) w (d.ej ks) v:=by
 have key:∀r row,bw r ks=false->c.R r=some row->(c.kill ks).R r=some (row.kill ks):=λr row hr cb=>by simp[Ctx.kill,hr,cb]
 have h1:=cv.one h
 cases d with
 |all r=>
  simp only[D.ej]
  cases hr:bw r ks with
  |true=>exact h1
  |false=>
   obtain⟨row,g1,g2,g3⟩:=h
   obtain⟨s1,s2,s3,s4⟩:=wq ks row
   exact⟨_,key r row hr g1,s1.trans g2,by rw[s2,s3,s4];exact g3⟩
 |own r o n=>
  simp only[D.ej]
  cases hr:bw r ks with
  |true=>exact h1
  |false=>
   obtain⟨row,g1,g2,g3,g4⟩:=h
   obtain⟨s1,s2,s3,s4⟩:=wq ks row
   exact⟨_,key r row hr g1,s1.trans g2,by rw[s4];exact g3,by rw[s2,s3];exact g4⟩
 |ptr r i off=>
  simp only[D.ej]
  cases hr:bw r ks with
  |true=>exact h1
  |false=>
   obtain⟨row,g1,g2,g3,g4⟩:=h
   obtain⟨s1,s2,s3,s4⟩:=wq ks row
   exact⟨_,key r row hr g1,g2,by rw[s4];exact g3,by rw[s3];exact g4⟩
 |pa r i off len k n=>
  simp only[D.ej]
  cases hr:bw r ks with
  |true=>exact h1
  |false=>
   obtain⟨g0,row,g1,g2,g3,g4⟩:=h
   obtain⟨s1,s2,s3,s4⟩:=wq ks row
   exact⟨g0,_,key r row hr g1,g2,by rw[s4];exact g3,by rw[s3];exact g4⟩
 |c8 r=>
  simp only[D.ej]
  cases hr:bw r ks with
  |true=>exact h1
  |false=>
   rcases h with h|⟨row,g1,g2,g3,g4⟩
   ·exact .inl h
   ·obtain⟨s1,s2,s3,s4⟩:=wq ks row
    exact .inr ⟨_,key r row hr g1,g2,by rw[s4];exact g3,by rw[s3];exact g4⟩
 |gq f cs=>exact absurd rfl (gl f cs)
 |_=>exact h
theorem vu{d:D}(gl:∀f cs,d≠.gq f cs)(h:∀r∈nN d,bw r ks=false):d.ej ks=d:=by
 cases d<;>first|rfl|(simp only[D.ej];rw[h _ (by simp[nN])])|exact absurd rfl (gl _ _)
theorem SM{d:D}{v:Value}(h:cv c w d v):cv (c.kill ks) w (d.ej ks) v:=by
 by_cases e:∃g cs,d=.gq g cs
 ·obtain⟨g,cs,rfl⟩:=e
  have h1:=cv.one h
  simp only[D.ej]
  cases hd:nO (oz cs) ks with
  |false=>exact h1
  |true=>
   obtain⟨us,hv,hu⟩:=h
   exact⟨us,hv,YT (c:=c) (w:=w) (c':=c.kill ks) (w':=w) (S:=λr=>bw r ks=false) (λd v q1 q2 q3=>by have:=Z8o (ks:=ks) q1 q3;rwa [vu q1 q2]at this) (λ_ hb=>⟨hb,rfl⟩) (λr hr=>by
    have:=Ux.1 hd r hr
    cases hm:bw r ks with
    |false=>rfl
    |true=>exact(this (oj.1 hm)).elim) hu⟩
 ·exact Z8o (λf cs e'=>e ⟨f,cs,e'⟩) h
theorem Zip:∀{ds:List D} {vs:List Value},jm c w ds vs->jm (c.kill ks) w (D.kA ks ds) vs
 |[],[],_=>trivial
 |_::_,_::_,h=>⟨SM h.1,Zip h.2⟩
 |[],_::_,h=>h.elim
 |_::_,[],h=>h.elim
theorem Zn8{d:D}{v:Value}(h:VRep c w d v):VRep (c.kill ks) w (d.kill ks) v:=by
 cases d with
 |agg cs=>obtain⟨vs,hv,hr⟩:=h;exact⟨vs,hv,Zip hr⟩
 |_=>
  have:=SM (ks:=ks) (VRep.toC (λcs e=>by cases e) h)
  exact VRep.EK this
theorem Zi9:∀{ds:List D} {vs:List Value},j8 c w ds vs->j8 (c.kill ks) w (D.pM ks ds) vs
 |[],[],_=>trivial
 |_::_,_::_,h=>⟨Zn8 h.1,Zi9 h.2⟩
 |[],_::_,h=>h.elim
 |_::_,[],h=>h.elim
theorem WB{d:D}{v:Value}(h:Rep c w d v):Rep (c.kill ks) w (d.gr ks) v:=by
 cases d with
 |dt ds=>obtain⟨vs,hv,hr⟩:=h;exact⟨vs,hv,Zi9 hr⟩
 |dead=>trivial
 |_=>
  have:=Zn8 (ks:=ks) (Rep.toV (λds e=>by cases e) (λe=>by cases e) h)
  exact Rep.KE this
theorem Za2:∀{ds:List D} {arr:Array Value} {off:Nat},kK c w ds arr off->kK (c.kill ks) w (D.kA ks ds) arr off
 |[],_,_,_=>trivial
 |_::_,_,_,⟨⟨v,hv,h1⟩,h2⟩=>⟨⟨v,hv,SM h1⟩,Za2 h2⟩
theorem Zlt{r:Nat}{row:Row}(h:EM c w r row):EM (c.kill ks) w r (row.kill ks):=by
 obtain⟨s1,s2,s3,s4⟩:=wq ks row
 rcases h with⟨h0,h1,h2,h3⟩|⟨h0,arr,ha,hs,hx⟩
 ·refine .inl ⟨h0,s1.trans h1,?_,by rw[s3];exact h3⟩
  rw[h2]at s4;exact fP s4
 ·refine .inr ⟨h0,arr,by rw[s2];exact ha,by rw[s3];exact hs,?_⟩
  rw[s1,s3]
  split
  ·rename_i hb
   simp only[hb,if_true]at hx
   obtain⟨e,k1,k2,k3,k4⟩:=hx
   obtain⟨box,ty,sz,es⟩:=row
   simp only at hb k1 k2 k3 k4
   subst hb;subst k1
   exact⟨D.kA ks e,rfl,by rw[Qzg];exact k2,k3,Za2 k4⟩
  ·rename_i hb
   simp only[hb,aN,if_false]at hx
   have he:(row.kill ks).es=row.es:=by
    unfold Row.kill
    split
    ·simp at hb
    ·rfl
   rw[he];exact hx
theorem oh{r:Nat}{x:Row}(h:(c.kill ks).R r=some x):bw r ks=false/\∃row,c.R r=some row/\x=row.kill ks:=by
 simp only[Ctx.kill]at h
 cases hb:bw r ks with
 |true=>rw[hb]at h;simp at h
 |false=>
  rw[hb]at h
  simp only[aN,if_false,fQ]at h
  obtain⟨row,h1,h2⟩:=h
  exact⟨rfl,row,h1,h2.symm⟩
theorem YU(hm:Mem c w):Mem (c.kill ks) w:=by
 refine⟨λr x hx=>?_,λr s x y hx hy v1 v2 he=>?_,λb hb=>⟨(hm.fu b hb).1,λr x hx v=>?_⟩,hm.top,hm.kN⟩
 ·obtain⟨_,row,h1,rfl⟩:=oh hx
  exact Zlt (hm.row r row h1)
 ·obtain⟨_,row,h1,_⟩:=oh hx
  obtain⟨_,ak,h2,_⟩:=oh hy
  exact hm.inj r s row ak h1 h2 v1 v2 he
 ·obtain⟨_,row,h1,_⟩:=oh hx
  exact(hm.fu b hb).2 r row h1 v
end
theorem Zmq:∀{l:List Nat},nO l []=true
 |[]=>rfl
 |x::l=>by simp only[nO,bw];exact Zmq
theorem Wz(d:D):d.ej []=d:=by
 cases d with
 |gq f cs=>simp only[D.ej,Zmq]
 |_=>rfl
theorem Wy:∀{ds:List D},D.kA [] ds=ds
 |[]=>rfl
 |d::l=>by simp only[D.kA,Wz,Wy (ds:=l)]
theorem Z2k(row:Row):row.kill []=row:=by
 unfold Row.kill;split
 ·simp[Wy]
 ·rfl
theorem xQ(c:Ctx):c.kill []=c:=by
 obtain⟨ρ,R,V,I,base,top,X⟩:=c
 simp only[Ctx.kill,bw,aN,if_false]
 congr 1
 funext r
 cases R r<;>simp[Z2k]
theorem lP.toK{c c':Ctx}{w w':World}(h:lP c w c' w'):jF [] c w c' w':=
 ⟨h.mem,by rw[xQ];exact h.bz,h.fr,λb hb=>(h.fu b hb).imp id .inr,λr ak h1 h2=>(h.og r ak h1 h2).imp id .inr⟩
theorem PU{ks:List Nat}:∀{R:Rows} {i r:Nat},(r6 ks R i).getD r none=if bw (i+r) ks=true then none else(R.getD r none).map (Row.kill ks)
 |[],i,r=>by simp[r6]
 |x::l,i,0=>by
  simp only[r6,bG]
  cases bw i ks<;>cases x<;>simp
 |x::l,i,r+1=>by
  have:=PU (ks:=ks) (R:=l) (i:=i+1) (r:=r)
  rw[show i+1+r=i+(r+1) by omega]at this
  simpa[r6]using this
theorem JC{ks:List Nat}:∀{R:Rows} {i:Nat},(r6 ks R i).length=R.length
 |[],_=>rfl
 |x::l,i=>by simp[r6,JC (R:=l)]
def se(ks:List Nat)(env:List (Nat×D)):List (Nat×D):=env.map λx=>(x.1,x.2.gr ks)
theorem Ip{ks:List Nat}:∀{env:List (Nat×D)} {K:List (Nat×D)->Prop},Gl ks env K↔K (se ks env)
 |[],_=>Iff.rfl
 |(t,d)::l,K=>by
  simp only[Gl,D.cq]
  rw[Ip (env:=l) (K:=λl=>K ((t,d.gr ks)::l))]
  rfl
theorem BV{ks:List Nat}:∀{env:List (Nat×D)} {t:Nat},look (se ks env) t=(look env t).gr ks
 |[],_=>rfl
 |(u,d)::l,t=>by
  simp only[se,fR,look]
  cases Nat.beq u t with
  |true=>rfl
  |false=>exact BV (env:=l)
theorem Qmu{P:Program}(w:World){t tx ty e:TypeId}{i:TypeInfo}{ux:TypeDesc}(ht:P.underlying t=some (.slice e))(pB:P.underlying tx=some ux)(hx:∀k,ux≠.int k)(hi:P.info? e=some i)
 {a:Option Addr} {n cap m:Nat} {x:Value} {news:List Value} (hl:(Builtin.lenOf x).run P w=.ok m w) (hf:(Builtin.firstCells i.size m x).run P w=.ok news.toArray w) (kP:n+m<=cap) {w':World}
 (jQ:∀b,a=some b->(storeCells (b.add (n*i.size)) news).run P w=.ok () w') (oL:a=none->w'=w):
 (Builtin.append_ #[t,tx] ty #[.slice a n cap,x]).run P w=.ok (.slice a (n+m) cap) w':=by
 have hz:(match ux with|.int _=>true|_=>false)=false:=by
  cases ux<;>first|rfl|exact absurd rfl (hx _)
 cases a with
 |none=>
  have:=oL rfl
  subst this
  simp[Builtin.append_,run_underlying ht,run_underlying pB,hz,sizeOf,typeInfo,hi,hl,kP,hf]
 |some b=>simp[Builtin.append_,run_underlying ht,run_underlying pB,hz,sizeOf,typeInfo,hi,hl,kP,hf,jQ b rfl]
theorem Qmv{P:Program}(w:World){t tx ty e:TypeId}{i:TypeInfo}{z:Value}{ux:TypeDesc}(ht:P.underlying t=some (.slice e))(pB:P.underlying tx=some ux)(hx:∀k,ux≠.int k)(hi:P.info? e=some i)(hz:i.zero=some z)
 {a:Option Addr} {n cap m:Nat} {x:Value} {kU news:List Value} (hl:(Builtin.lenOf x).run P w=.ok m w) (hf:(Builtin.firstCells i.size m x).run P w.drew=.ok news.toArray w.drew) (hfo:(Builtin.firstCells i.size n (.slice a n cap)).run P w.drew=.ok kU.toArray w.drew)
 (hg:cap<n+m) (h63:((n+m:Nat):Int)<=9223372036854775807) (ra:Builtin.nextslicecap (n+m) cap*i.bytes<=281474976710656):
 (Builtin.append_ #[t,tx] ty #[.slice a n cap,x]).run P w=.ok (.slice (some ⟨w.heap.size,0,none⟩) (n+m) (grownCap w (n+m) cap e))
  (w.drew.alloc (.cells (kU.toArray++news.toArray++Builtin.zeroCells z.cells (grownCap w (n+m) cap e-(n+m))) e)):=by
 have hn:¬(n+m<=cap):=by omega
 have IL:¬(9223372036854775807<((n:Int)+(m:Int))):=by omega
 have YV:¬(281474976710656<Builtin.nextslicecap (n+m) cap*i.bytes):=by omega
 simp[Builtin.append_,run_underlying ht,run_underlying pB,sizeOf,typeInfo,zeroValue,hi,hz,hl,hn,IL,YV,Question.forced,hf,hfo,newRow,grownCap]
 congr 2
 apply fS
 simp[fF]
theorem qv{w:World}{b o:Nat}{arr:Array Value}{ty:TypeId}{fz:Nat×Nat}(h:w.heap[b]?=some (.cells arr ty fz))(j:Nat):w.cell? ((⟨b,o,none⟩:Addr).add j)=arr[o+j]? :=by
 rw[FE]
 unfold World.cell?
 simp[h]
theorem Zgf{I:ae}{w:World}{es:List (List D)}{arr:Array Value}{off sz:Nat}(h:iJ I w es arr off sz)(h0:0<sz):∃news:List Value,news.length=es.length*sz/\(∀j u,news[j]?=some u->arr[off+j]?=some u)/\iJ I w es news.toArray 0 sz:=by
 have fx:es.length*sz<=arr.size-off:=by
  by_cases he:es.length=0
  ·rw[he];omega
  ·obtain⟨h1,h2⟩:=wh.1 h (es.length-1) (by omega)
   obtain⟨v,hv,_⟩:=tW.1 h2 (sz-1) (by omega)
   have cg:=(Array.getElem?_eq_some_iff.1 hv).1
   have:es.length*sz=(es.length-1)*sz+sz:=by
    rw[show es.length*sz=(es.length-1+1)*sz by congr 1;omega,aW]
   omega
 refine⟨(arr.toList.drop off).take (es.length*sz),by simp;omega,λj u hj=>?_,?_⟩
 ·rw[aU]at hj
  split at hj
  ·rw[fT]at hj
   simpa using hj
  ·cases hj
 ·rw[wh]at h⊢
  intro i hi
  obtain⟨h1,h2⟩:=h i hi
  refine⟨h1,?_⟩
  rw[tW]at h2⊢
  intro j hj
  obtain⟨v,hv,hp⟩:=h2 j hj
  refine⟨v,?_,hp⟩
  have cg:i*sz+j<es.length*sz:=by
   have:=aV sz (show i+1<=es.length by omega)
   rw[aW]at this
   omega
  simp only[aX,aY]
  rw[aU,if_pos cg,fT,<-hv]
  simp[Nat.add_assoc]
theorem iJ.one{I:ae}{w:World}{es:List (List D)}{news:List Value}{sz:Nat}(h:iJ I w es news.toArray 0 sz)(hl:news.length=es.length*sz):∀u∈news,u.oneCell'=true:=by
 intro u hu
 obtain⟨j,hj⟩:=List.getElem?_of_mem hu
 have cg:=(List.getElem?_eq_some_iff.1 hj).1
 have h0:0<sz:=by
  rcases Nat.eq_zero_or_pos sz with h0|h0
  ·subst h0;simp at hl;rw[hl]at cg;simp at cg
  ·exact h0
 have hi:j/sz<es.length:=by rw[Nat.div_lt_iff_lt_mul h0];omega
 obtain⟨h1,h2⟩:=wh.1 h (j/sz) hi
 obtain⟨v,hv,hp⟩:=tW.1 h2 (j%sz) (by rw[h1];exact Nat.mod_lt _ h0)
 have e:0+j/sz*sz+j%sz=j:=by rw[aX,fU];exact Nat.div_add_mod j sz
 rw[e,aY,hj]at hv
 cases hv
 exact fy.one hp
theorem Zl{I:ae}{w:World}(s:List UInt8):iJ I w (ao.ints .u8 (jx s)).l (s.map λb=>Value.int .u8 b.toNat).toArray 0 1:=by
 rw[wh]
 intro i hi
 have iz:i<s.length:=by simpa[jx,ao.l]using hi
 have he:(ao.ints .u8 (jx s)).l.getD i []=[.int .u8 s[i].toNat]:=by simp[jx,ao.l,aK,iz]
 rw[he]
 refine⟨rfl,?_⟩
 simp only[BP,Aq,sr,rP,ss,su,sw,sx,tD,tZ,ua,ub,uc,ud,ue,uf,ug,uh,and_true]
 exact⟨_,by simp[iz],rfl⟩
def Src(P:Program)(c:Ctx)(w:World)(v:Value)(ys:List (List D))(sz:Nat):Prop:=
 ∃news:List Value,news.length=ys.length*sz/\(Builtin.lenOf v).run P w=.ok ys.length w/\(∀k,k<=ys.length->∀w',w'.heap=w.heap->(Builtin.firstCells sz k v).run P w'=.ok (news.take (k*sz)).toArray w')/\iJ c.I w ys news.toArray 0 sz
theorem JD{P:Program}{c:Ctx}{w:World}{sz sy:Nat}(h0:0<sz){es:List (List D)}{a:Option Addr}{cap:Nat}(ij:es=[]\/sy=sz/\∃b off arr ty fz,a=some ⟨b,off,none⟩/\w.heap[b]?=some (.cells arr ty fz)/\iJ c.I w es arr off sy):
 Src P c w (.slice a es.length cap) es sz:=by
 rcases ij with ij|⟨hss,b,off,arr,ty,fz,ha,hh,hE⟩
 ·subst ij
  refine⟨[],by simp,by simp[Builtin.lenOf],λk hk w' _=>?_,by simp[pN,oi]⟩
  have Ap:k=0:=by simpa using hk
  subst Ap
  cases a with
  |none=>simp[Builtin.firstCells]
  |some a=>
   have:=run_firstCells_some (P:=P) w' sz 0 a 0 cap [] (by simp) (λj v h=>by simp at h)
   simpa using this
 ·subst hss
  obtain⟨news,g1,g2,g3⟩:=Zgf hE h0
  refine⟨news,g1,by simp[Builtin.lenOf],λk hk w' YW=>?_,g3⟩
  subst ha
  refine run_firstCells_some (P:=P) w' sy k ⟨b,off,none⟩ _ cap (news.take (k*sy)) ?_ λj u hj=>?_
  ·have:=aV sy hk
   simp;omega
  ·rw[qv (by rw[YW];exact hh)]
   rw[aU]at hj
   split at hj
   ·exact g2 j u hj
   ·cases hj
theorem y8{P:Program}{c:Ctx}{w:World}{R:Rows}{y:D}{v:Value}{sy sz:Nat}{ys:ao}(h0:0<sz)(h:sA R y=some (sy,ys))(hs:sy=sz\/ys.l=[])(hm:Mem c w)(hA:mJ c R)(hr:Rep c w y v):Src P c w v ys.l sz:=by
 cases y<;>simp only[sA]at h<;>try(cases h;done)
 case du=>cases h;rw[show v=_ from hr];exact JD (sy:=sz) h0 (es:=[]) (.inl rfl)
 case emp=>cases h;obtain⟨a,hv,_⟩:=hr;rw[hv];exact JD (sy:=sz) h0 (es:=[]) (.inl rfl)
 case sl s es fr=>
  cases h
  obtain⟨a,cap,hv,hc,ij⟩:=hr
  rw[hv]
  refine JD (sy:=sy) h0 ?_
  rcases ij with ij|⟨b,off,arr,ty,fz,ha,hI,hf,hh,hE⟩
  ·exact .inl ij
  ·rcases hs with hs|hs
   ·exact .inr ⟨hs,b,off,arr,ty,fz,ha,hh,hE⟩
   ·exact .inl hs
 case all r=>
  split at h
  ·rename_i ty s es hR
   cases h
   obtain⟨row,g1,g2,hv⟩:=hr
   have:=hA r row _ g1 hR
   subst this
   rcases hv with⟨hV,a,hv,_⟩|⟨hV,cap,arr,hv,g3,g4,g5,g6⟩
   ·have he:=(hm.oe g1 hV).2.1
    simp only at he
    rw[hv,he]
    exact JD (sy:=sz) h0 (es:=[]) (.inl rfl)
   ·obtain⟨iO,jC,ji,hx⟩:=hm.real g1 hV
    simp only at g5 jC hx hv
    rw[g5]at jC;cases jC
    simp only[aN,if_false]at hx
    rw[hv]
    refine JD (sy:=sy) h0 ?_
    rcases hs with hs|hs
    ·exact .inr ⟨hs,_,0,arr,_,_,rfl,g5,hx⟩
    ·exact .inl hs
  ·cases h
 case own r o n=>
  split at h
  ·rename_i ty s es hR
   cases h
   obtain⟨row,g1,g2,g5,hv⟩:=hr
   have:=hA r row _ g1 hR
   subst this
   simp only at g5
   have hlen:((es.l.drop o).take n).length=n:=by simp only[bD,bF];omega
   rw[ao.iZ,ao.kb]at hs⊢
   rcases hv with⟨g7,a,hv,_⟩|⟨hV,cap,arr,g3,g4,g6,hv,g7⟩
   ·subst g7
    rw[hv]
    have:=JD (P:=P) (c:=c) (w:=w) (sy:=sz) h0 (es:=(es.l.drop o).take 0) (a:=a) (cap:=0) (.inl (by simp))
    simpa using this
   ·obtain⟨iO,jC,ji,hx⟩:=hm.real g1 hV
    simp only at g6 jC hx hv
    rw[g6]at jC;cases jC
    simp only[aN,if_false]at hx
    have hE:=Mo (n:=n) (KA (l:=o) hx)
    have:=JD (P:=P) (c:=c) (w:=w) (sy:=sy) h0 (es:=(es.l.drop o).take n) (a:=some ⟨c.ρ r,o*sy,none⟩) (cap:=cap) (by
     rcases hs with hs|hs
     ·exact .inr ⟨hs,_,o*sy,arr,_,_,rfl,g6,by simpa using hE⟩
     ·exact .inl hs)
    rw[hlen]at this
    rw[hv];exact this
  ·cases h
theorem v8{P:Program}{c:Ctx}{w:World}{R:Rows}{ke kx:TK}{y:D}{v:Value}{sy sz:Nat}{ys:ao}(h0:0<sz)(h:CH R ke kx y=some (sy,ys))(hs:sy=sz\/ys.l=[])(hm:Mem c w)(hA:mJ c R)(hr:Rep c w y v):Src P c w v ys.l sz:=by
 unfold CH at h
 split at h
 ·exact y8 h0 h hs hm hA hr
 ·split at h
  ·rename_i s
   cases h
   have hv:=Rep.str.1 hr
   subst hv
   have fx:(ByteArray.mk s.toArray).size=s.length:=by simp[ByteArray.size]
   have ext:∀k,((ByteArray.mk s.toArray).extract 0 k).data.toList=s.take k:=λk=>by
    simp[ByteArray.data_extract]
   have hf:∀k w',(Builtin.firstCells sz k (.string ⟨s.toArray⟩)).run P w'=.ok ((s.map λb=>Value.int .u8 b.toNat).take k).toArray w':=λk w'=>by
    simp only[Builtin.firstCells,Sem.run_pure]
    congr 1
    apply fS
    simp only[Array.toList_map,ext,List.map_take]
   rcases hs with hs|hs
   ·subst hs
    exact⟨s.map λb=>Value.int .u8 b.toNat,by simp[jx,ao.len],by simp[Builtin.lenOf,jx,ao.len,fx],λk hk w' _=>by rw[hf];simp,Zl s⟩
   ·have:s=[]:=by simpa[jx,ao.l]using hs
    subst this
    exact⟨[],by simp[jx,ao.len],by simp[Builtin.lenOf,jx,ao.len,fx],λk hk w' _=>by rw[hf];simp,by simp[jx,ao.l,pN,oi]⟩
  ·cases h
 ·cases h
def Ctx.jr(c:Ctx)(k:Nat)(row:Row):Ctx:={c with R:=λr=>if r=k then some row else c.R r,V:=λr=>r=k\/c.V r}
theorem SO{c:Ctx}{w:World}{k:Nat}(hk:c.R k=none)(row:Row):jk c w (c.jr k row) w:=by
 refine⟨rfl,aO _,λb hb=>⟨hb,rfl⟩,λr x hr=>?_⟩
 have gl:r≠k:=λe=>by rw[e,hk]at hr;cases hr
 exact⟨x,by simp[Ctx.jr,gl,hr],rfl,rfl,rfl,rfl,rfl,by simp[Ctx.jr,gl],λ_ arr ha=>⟨arr,ha,rfl⟩⟩
theorem WE{c:Ctx}{w:World}(hm:Mem c w){k:Nat}(hk:c.R k=none){row:Row}(hb:row.box=false)(he:row.es.l=[])(h0:0<row.sz):Mem (c.jr k row) w:=by
 have hg:=SO (w:=w) hk row
 have inv:∀r x,(c.jr k row).R r=some x->¬(c.jr k row).V r->c.R r=some x/\¬c.V r:=λr x hr hv=>by
  have h1:¬r=k:=λe=>hv (.inl e)
  exact⟨by simpa[Ctx.jr,h1]using hr,λe=>hv (.inr e)⟩
 refine⟨λr x hr=>?_,λr s x y hr hs v1 v2 h=>?_,λb iI=>⟨(hm.fu b iI).1,λr x hr v=>?_⟩,hm.top,hm.kN⟩
 ·by_cases e:r=k
  ·subst e
   simp only[Ctx.jr,if_true,Option.some.injEq]at hr
   subst hr
   exact .inl ⟨.inl rfl,hb,he,h0⟩
  ·have nB:c.R r=some x:=by simpa[Ctx.jr,e]using hr
   exact tX hg rfl (by simp[Ctx.jr,e]) (λ_=>rfl) (hm.row r x nB)
 ·obtain⟨h1,h2⟩:=inv r x hr v1
  obtain⟨h3,h4⟩:=inv s y hs v2
  exact hm.inj r s x y h1 h3 h2 h4 h
 ·obtain⟨h1,h2⟩:=inv r x hr v
  exact(hm.fu b iI).2 r x h1 h2
theorem Ng(c:Ctx)(w:World):jk c w c w.drew:=⟨rfl,aO _,λb hb=>⟨hb,rfl⟩,λr row hr=>⟨row,hr,rfl,rfl,rfl,rfl,rfl,Iff.rfl,λ_ arr ha=>⟨arr,ha,rfl⟩⟩⟩
theorem Ky{c:Ctx}{w:World}(h:Mem c w):Mem c w.drew:=
 ⟨λr row hr=>tX (Ng c w) rfl Iff.rfl (λ_=>rfl) (h.row r row hr),h.inj,h.fu,h.top,h.kN⟩
theorem YX{I:ae}{w:World}{es ys:List (List D)}{A B C:List Value}{sz:Nat}(h1:iJ I w es A.toArray 0 sz)(hA:A.length=es.length*sz)(h2:iJ I w ys B.toArray 0 sz)(hB:B.length=ys.length*sz):iJ I w (es++ys) (A++B++C).toArray 0 sz:=by
 rw[wh]at h1 h2⊢
 intro i hi
 by_cases cg:i<es.length
 ·have he:(es++ys).getD i []=es.getD i []:=by simp[aK,aZ cg]
  rw[he]
  obtain⟨g1,g2⟩:=h1 i cg
  refine⟨g1,?_⟩
  rw[tW]at g2⊢
  intro j hj
  obtain⟨v,hv,hp⟩:=g2 j hj
  refine⟨v,?_,hp⟩
  have hl:=(Array.getElem?_eq_some_iff.1 hv).1
  simp only[aY,bA]at hv hl⊢
  rw[fF,aZ hl];exact hv
 ·have iz:i-es.length<ys.length:=by simp at hi;omega
  have he:(es++ys).getD i []=ys.getD (i-es.length) []:=by simp[aK,bB (show es.length<=i by omega)]
  rw[he]
  obtain⟨g1,g2⟩:=h2 _ iz
  refine⟨g1,?_⟩
  rw[tW]at g2⊢
  intro j hj
  obtain⟨v,hv,hp⟩:=g2 j hj
  refine⟨v,?_,hp⟩
  have hl:=(Array.getElem?_eq_some_iff.1 hv).1
  simp only[aY,bA]at hv hl⊢
  have e:0+i*sz+j=A.length+(0+(i-es.length)*sz+j):=by
   rw[hA,show i*sz=(es.length+(i-es.length))*sz by congr 1;omega,bC];omega
  rw[e,fF,bB (by omega),aZ (by omega)]
  rw[show A.length+(0+(i-es.length)*sz+j)-A.length=0+(i-es.length)*sz+j by omega]
  exact hv
theorem zQ{c:Ctx}{w:World}(hm:Mem c w){r k:Nat}{row ak:Row}{cur arr:Array Value}(hr:c.R r=some row)(hV:¬c.V r)(hk:c.R k=none)(hh:w.heap[c.ρ r]?=some (.cells cur row.ty (0,0)))(Uy:ak.ty=row.ty)(h0:0<ak.sz)(hb:ak.box=false)
 (hE:∀w',(∀b,c.I b->w'.heap[b]?=w.heap[b]?)->iJ c.I w' ak.es.l arr 0 ak.sz):
 jk (c.kill [r]) w ((c.kill [r]).add k ak (c.ρ r)) (w.setRow (c.ρ r) arr)/\Mem ((c.kill [r]).add k ak (c.ρ r)) (w.setRow (c.ρ r) arr):=by
 have Ce:=YU (ks:=[r]) hm
 have FG:(c.kill [r]).R k=none:=by simp[Ctx.kill,hk]
 have oL:∀s x,(c.kill [r]).R s=some x->s≠r/\s≠k:=λs x hs=>by
  obtain⟨h1,jY,h2,_⟩:=oh hs
  refine⟨λe=>?_,λe=>by rw[e,FG]at hs;cases hs⟩
  rw[e]at h1
  have:=oj (r:=r) (l:=[r])
  simp[h1]at this
 have fi:(w.setRow (c.ρ r) arr).heap[c.ρ r]?=some (.cells arr row.ty (0,0)):=setRow_heap w _ _ _ _ _ hh
 have CI:∀s x,(c.kill [r]).R s=some x->¬c.V s->(w.setRow (c.ρ r) arr).heap[c.ρ s]?=w.heap[c.ρ s]? :=λs x hs v=>setRow_other w _ _ _ λe=>by
  obtain⟨_,jY,h2,_⟩:=oh hs
  exact(oL s x hs).1 (hm.inj s r jY row h2 hr v hV e)
 have hI:∀b,c.I b->(w.setRow (c.ρ r) arr).heap[b]?=w.heap[b]? :=λb hb=>setRow_other w _ _ _ (λe=>(hm.fu b hb).2 r row hr hV e.symm)
 have hg:jk (c.kill [r]) w ((c.kill [r]).add k ak (c.ρ r)) (w.setRow (c.ρ r) arr):=by
  refine⟨rfl,aO _,λb hb=>⟨hb,hI b hb⟩,λs x hs=>?_⟩
  obtain⟨n1,n2⟩:=oL s x hs
  exact⟨x,by simp[Ctx.add,n2,hs],rfl,rfl,rfl,rfl,by simp[Ctx.add,n2],by simp[Ctx.add,n2],λv a ha=>⟨a,(CI s x hs v).trans ha,rfl⟩⟩
 have inv:∀s x,((c.kill [r]).add k ak (c.ρ r)).R s=some x->¬((c.kill [r]).add k ak (c.ρ r)).V s->(s=k/\((c.kill [r]).add k ak (c.ρ r)).ρ s=c.ρ r)\/(s≠k/\s≠r/\((c.kill [r]).add k ak (c.ρ r)).ρ s=c.ρ s/\¬c.V s/\∃y,c.R s=some y):=λs x hs v=>by
  by_cases e:s=k
  ·exact .inl ⟨e,by simp[Ctx.add,e]⟩
  ·have ji:(c.kill [r]).R s=some x:=by simpa[Ctx.add,e]using hs
   obtain⟨_,y,hy,_⟩:=oh ji
   have v':¬c.V s:=λh=>v (by simp only[Ctx.add];exact⟨e,h⟩)
   exact .inr ⟨e,(oL s x ji).1,by simp[Ctx.add,e,Ctx.kill],v',y,hy⟩
 refine⟨hg,⟨λs x hs=>?_,λs q x y hs hq v1 v2 he=>?_,λb iI=>?_,by show c.top<=(w.setRow _ _).heap.size;simpa[World.setRow]using hm.top,hm.kN.mono hg.I⟩⟩
 ·by_cases e:s=k
  ·subst e
   simp only[Ctx.add,if_true,Option.some.injEq]at hs
   subst hs
   refine .inr ⟨by simp[Ctx.add],arr,by simp only[Ctx.add,if_true];rw[Uy];exact fi,h0,?_⟩
   rw[hb]
   simp only[aN,if_false]
   exact hE _ hI
  ·have ji:(c.kill [r]).R s=some x:=by simpa[Ctx.add,e]using hs
   exact tX hg (by simp[Ctx.add,e]) (by simp[Ctx.add,e]) (λv=>CI s x ji v) (Ce.row s x ji)
 ·rcases inv s x hs v1 with⟨e1,p1⟩|⟨e1,p1,p2,p3,y1,p4⟩<;>rcases inv q y hq v2 with⟨e2,q1⟩|⟨e2,q1,q2,q3,y2,q4⟩
  ·rw[e1,e2]
  ·rw[p1,q2]at he
   exact(q1 (hm.inj q r y2 row q4 hr q3 hV he.symm)).elim
  ·rw[p2,q1]at he
   exact(p1 (hm.inj s r y1 row p4 hr p3 hV he)).elim
  ·rw[p2,q2]at he
   exact hm.inj s q y1 y2 p4 q4 p3 q3 he
 ·refine⟨by simpa[World.setRow]using(hm.fu b iI).1,λs x hs v=>?_⟩
  rcases inv s x hs v with⟨e1,p1⟩|⟨e1,p1,p2,p3,y1,p4⟩
  ·rw[p1];exact(hm.fu b iI).2 r row hr hV
  ·rw[p2];exact(hm.fu b iI).2 s y1 p4 p3
def BS(P:Program)(o:Oper)(ev:Operand->D)(R:Rows)(ks:List Nat)(val:D)(R':Rows):Prop:=
 ∀ (c:Ctx) (w:World) (a:Act),Mem c w->c.base<=w.heap.size->(∀r,c.R r=R.getD r none)->(∀x∈o.op.operands,Rep c w (ev x) (a.eval x))->
  ∀K Q,(∀v w' c',jF ks c w c' w'->(∀r,c'.R r=R'.getD r none)->Rep c' w' val v->K (a.put o.dst v) w')->o.nm P a w K Q
theorem EL.toK{P:Program}{o:Oper}{ev:Operand->D}{R:Rows}{val:D}{R':Rows}(h:EL P o ev R val R'):BS P o ev R [] val R':=
 λc w a hm hb hR eu K Q hK=>h c w a hm hb hR eu K Q λv w' c' hn jV hv=>hK v w' c' hn.toK jV hv
section
variable {P:Program} {c:Ctx} {w:World} {R:Rows} {ks:List Nat} {e sz lQ:Nat} {es ys:ao}
theorem Uz{row:Row}{ρ':Nat->Nat}{V':Nat->Prop}(hR:∀r,c.R r=R.getD r none):∀r,(if r=R.length then some row else(c.kill ks).R r)=(r6 ks R 0++[some row]).getD r none:=by
 intro r
 by_cases e:r=R.length
 ·subst e
  simp[aK,bB,JC]
 ·rw[if_neg e]
  by_cases cg:r<R.length
  ·rw[aK,aZ (by rw[JC];exact cg),<-aK,PU]
   simp[Ctx.kill,hR]
  ·rw[aK,aM (by simp[JC];omega)]
   simp[Ctx.kill,hR,aM (show R.length<=r by omega)]
theorem append_empty{t tx ty:TypeId}{i:TypeInfo}{z:Value}{ux:TypeDesc}(ht:P.underlying t=some (.slice e))(pB:P.underlying tx=some ux)(hx: ∀k,ux≠ .int k)(hi:P.info? e=some i)(hz:i.zero=some z)(fx:i.size=sz)(uJ:i.bytes=lQ)(FH:z.cells.size=sz)
    (hm:Mem c w) (hb:c.base<=w.heap.size) (hR: ∀r,c.R r=R.getD r none) (h0:0<sz) (pA:0<lQ) (oA:lQ*(0+ys.l.length)<=140737488355328) {a:Option Addr} (AF:AE c.top a) {vy:Value} (hs:Src P c w vy ys.l sz):
    ∃v' w' c',(Builtin.append_ #[t,tx] ty #[.slice a 0 0,vy]).run P w= .ok v' w'/\jF ks c w c' w'/\(∀r,c'.R r=(r6 ks R 0++[some (⟨false,e,sz,ys⟩:Row)]).getD r none)/\Rep c' w' (.all R.length) v':=by
  obtain⟨news,g1,g2,g3,g4⟩:=hs
  have hk:c.R R.length=none:=by rw[hR];simp [aK]
  have FG:(c.kill ks).R R.length=none:=by simp [Ctx.kill,hk]
  have Ce:=YU (ks:=ks) hm
  subst fx
  by_cases hm0:ys.l.length=0
  . have SU:ys.l=[]:=fP hm0
    have hn:news=[]:=fP (by rw[g1,hm0];simp)
    subst hn
    rw[SU]at g2 g3
    have ig:=Qmu (P:=P) w (ty:=ty) (n:=0) (cap:=0) (a:=a) (w':=w) ht pB hx hi g2 (by simpa using g3 0 (aO _) w rfl) (by simp) (λb _=>by simp [storeCells]) (λ_=>rfl)
    refine⟨_,w,(c.kill ks).jr R.length ⟨false,e,i.size,ys⟩,ig,⟨WE Ce FG rfl SU h0,SO FG _,Fr.refl _ w,λb hb=> .inl hb,λr ak h1 h2=> ?_⟩,Uz (ρ':=c.ρ) (V':=c.V) hR,?_⟩
    . have gl:r≠R.length:=λe=>h2 (.inl e)
      have o9:(c.kill ks).R r=some ak:=by simpa [Ctx.jr,gl] using h1
      obtain⟨_,jY,h3,_⟩:=oh o9
      exact .inl ⟨⟨jY,h3⟩,λe=>h2 (.inr e),rfl⟩
    . exact⟨⟨false,e,i.size,ys⟩,by simp [Ctx.jr],rfl, .inl ⟨.inl rfl,a,rfl,AF⟩⟩
  . have hlen:(0+ys.l.length:Nat)*i.bytes<=140737488355328:=by rw[uJ,fU];exact oA
    have Ui:0+ys.l.length<=140737488355328:=bH (fV _ (by rw[uJ];exact pA)) hlen
    have YY:0+ys.l.length<=maxLen:=by unfold maxLen;omega
    have ig:=Qmv (P:=P) w (ty:=ty) (n:=0) (cap:=0) (a:=a) (kU:=[]) (news:=news) ht pB hx hi hz g2
      (by have:=g3 _ (aO _) w.drew rfl;rwa [fM (by omega)]at this)
      (by cases a with
          |none=>simp [Builtin.firstCells]
          |some a=>simpa using run_firstCells_some (P:=P) w.drew i.size 0 a 0 0 [] (by simp) (λj v h=>by simp at h)) (by omega) (by omega) (growslice_fits (by omega) hlen)
    have pK:=grownCap_ge w (0+ys.l.length) 0 e
    have AD:grownCap w (0+ys.l.length) 0 e<=maxLen:=grownCap_le_maxLen w _ _ e YY
    generalize grownCap w (0+ys.l.length) 0 e=gc at ig pK AD
    have mr:(#[]++news.toArray++Builtin.zeroCells z.cells (gc-(0+ys.l.length))).size=gc*i.size:=by
      have e1:(#[]++news.toArray++Builtin.zeroCells z.cells (gc-(0+ys.l.length))).size=ys.l.length*i.size+(gc-(0+ys.l.length))*i.size:=by
        simp [size_zeroCells,FH,g1]
      rw[e1,<-bC]
      congr 1;omega
    have hE: ∀(I:ae) (w':World),(∀b,c.I b->I b/\w'.heap[b]? =w.heap[b]?)->iJ I w' ys.l (#[]++news.toArray++Builtin.zeroCells z.cells (gc-(0+ys.l.length))) 0 i.size:=λI w' h=>by
      have:=YX (I:=I) (w:=w') (es:=[]) (ys:=ys.l) (A:=[]) (B:=news) (C:=(Builtin.zeroCells z.cells (gc-(0+ys.l.length))).toList) (sz:=i.size) (by simp [pN,oi]) (by simp) (od h _ _ _ _ g4) g1
      have h2:(#[]++news.toArray++Builtin.zeroCells z.cells (gc-(0+ys.l.length)))=([]++news++(Builtin.zeroCells z.cells (gc-(0+ys.l.length))).toList).toArray:=by apply fS;simp
      rw[h2];simpa using this
    have Hq:=Mem.alloc (w:=w.drew) (Ky Ce) FG ⟨false,e,i.size,ys⟩ (#[]++news.toArray++Builtin.zeroCells z.cells (gc-(0+ys.l.length))) h0 (by
      simp only[aN,if_false]
      exact hE _ _ λb hb=>⟨hb,rfl⟩)
    have oB:=YZ (c:=c.kill ks) (w:=w.drew) (k:=R.length) (e:=e) (sz:=i.size) (cap:=gc) (es:=ys) (arr:= #[]++news.toArray++Builtin.zeroCells z.cells (gc-(0+ys.l.length))) (by omega) AD mr.symm
    refine⟨_,_,(c.kill ks).add R.length ⟨false,e,i.size,ys⟩ w.heap.size,ig,⟨Hq,(Ng _ w).trans (jk.alloc (w:=w.drew) (Ky Ce) FG _ _),?_,λb hb=> .inl hb,λr ak h1 h2=> ?_⟩,Uz (ρ':=c.ρ) (V':=c.V) hR,by have h3:=oB;simp only[aX]at h3⊢;exact h3⟩
    . exact Fr.trans (w':=w.drew) ⟨rfl,rfl,rfl,aO _,λ_ _ _=>rfl⟩ (Fr.alloc _ w.drew _)
    . by_cases e1:r=R.length
      . subst e1
        right;right
        simp [Ctx.add]
      . have o9:(c.kill ks).R r=some ak:=by simpa [Ctx.add,e1] using h1
        obtain⟨_,jY,h3,_⟩:=oh o9
        exact .inl ⟨⟨jY,h3⟩,by simpa [Ctx.add,e1,Ctx.kill] using h2,by simp [Ctx.add,e1,Ctx.kill]⟩
theorem Zg2{t tx ty:TypeId}{i:TypeInfo}{z:Value}{ux:TypeDesc}(ht:P.underlying t=some (.slice e))(pB:P.underlying tx=some ux)(hx:∀k,ux≠.int k)(hi:P.info? e=some i)(hz:i.zero=some z)(fx:i.size=sz)(uJ:i.bytes=lQ)(FH:z.cells.size=sz)
 (hm:Mem c w) (hb:c.base<=w.heap.size) (hR:∀r,c.R r=R.getD r none) (h0:0<sz) (pA:0<lQ) (oA:lQ*(es.l.length+ys.l.length)<=140737488355328) {r:Nat} {row:Row} (q1:c.R r=some row) (Uy:row.ty=e) (hV:¬c.V r) {cap:Nat} {cur:Array Value} (h1:es.l.length<=cap) (h2:cap<=maxLen) (h3:w.heap[c.ρ r]?=some (.cells cur e (0,0))) (h4:cap*sz=cur.size) (JE:iJ c.I w es.l cur 0 sz) {vy:Value} (hs:Src P c w vy ys.l sz):
 ∃v' w' c',(Builtin.append_ #[t,tx] ty #[.slice (some ⟨c.ρ r,0,none⟩) es.l.length cap,vy]).run P w=.ok v' w'/\jF [r] c w c' w'/\(∀q,c'.R q=(r6 [r] R 0++[some (⟨false,e,sz,es.app ys⟩:Row)]).getD q none)/\Rep c' w' (.all R.length) v':=by
 obtain⟨news,g1,g2,g3,g4⟩:=hs
 have hk:c.R R.length=none:=by rw[hR];simp[aK]
 have FG:(c.kill [r]).R R.length=none:=by simp[Ctx.kill,hk]
 have Ce:=YU (ks:=[r]) hm
 subst fx
 have hlen:(es.l.length+ys.l.length)*i.bytes<=140737488355328:=by rw[uJ,fU];exact oA
 have Ui:es.l.length+ys.l.length<=140737488355328:=bH (fV _ (by rw[uJ];exact pA)) hlen
 have YY:es.l.length+ys.l.length<=maxLen:=by unfold maxLen;omega
 obtain⟨kU,o1,o2,o3⟩:=Zgf JE h0
 by_cases kP:es.l.length+ys.l.length<=cap
 ·have ra:es.l.length*i.size+0+news.length<=cur.size:=by rw[g1,<-h4,bG,<-bC];exact aV _ kP
  have jQ:=run_storeCells_at (P:=P) (c.ρ r) (es.l.length*i.size) e news 0 cur w h3 ra (iJ.one g4 g1)
  simp only[bG]at jQ ra
  have ig:=Qmu (P:=P) w (ty:=ty) (n:=es.l.length) (cap:=cap) (a:=some ⟨c.ρ r,0,none⟩) ht pB hx hi g2 (by have:=g3 _ (aO _) w rfl;rwa [fM (by omega)]at this) kP (λb hb=>by cases hb;rw[Addr.add_lit,aX];exact jQ) (λh=>by cases h)
  have hE:∀w',(∀b,c.I b->w'.heap[b]?=w.heap[b]?)->iJ c.I w' (es.app ys).l (cur.toList.take (es.l.length*i.size)++news++cur.toList.drop (es.l.length*i.size+news.length)).toArray 0 i.size:=λw' h=>by
   rw[ao.jX]
   refine YX (A:=cur.toList.take (es.l.length*i.size)) (od (λb hb=>⟨hb,h b hb⟩) _ _ _ _ ?_) (by rw[bD,show cur.toList.length=cur.size from rfl];omega) (od (λb hb=>⟨hb,h b hb⟩) _ _ _ _ g4) g1
   have:cur.toList.take (es.l.length*i.size)=kU:=by
    apply List.ext_getElem?
    intro j
    by_cases hj:j<kU.length
    ·have:=o2 j _ (cG hj)
     rw[aU,if_pos (by omega),cG hj]
     simpa using this
    ·rw[aM (by rw[bD];omega),aM (by omega)]
   rw[this];exact o3
  obtain⟨k1,k2⟩:=zQ hm (k:=R.length) (ak:=⟨false,e,i.size,es.app ys⟩) q1 hV hk (by rw[Uy];exact h3) Uy.symm h0 rfl hE
  refine⟨_,_,_,ig,⟨k2,k1,(SG w _ _).mono λb _ hb=>⟨r,_,q1,hV,hb.symm⟩,λb hb=>.inl hb,λq ak p1 p2=>?_⟩,Uz (ρ':=c.ρ) (V':=c.V) hR,?_⟩
  ·by_cases e1:q=R.length
   ·subst e1
    exact .inr (.inl ⟨r,_,by simp[bw],q1,hV,by simp[Ctx.add]⟩)
   ·have o9:(c.kill [r]).R q=some ak:=by simpa[Ctx.add,e1]using p1
    obtain⟨_,jY,Jw,_⟩:=oh o9
    exact .inl ⟨⟨jY,Jw⟩,by simpa[Ctx.add,e1,Ctx.kill]using p2,by simp[Ctx.add,e1,Ctx.kill]⟩
  ·refine⟨⟨false,e,i.size,es.app ys⟩,by simp[Ctx.add],rfl,.inr ⟨by simp[Ctx.add],cap,(cur.toList.take (es.l.length*i.size)++news++cur.toList.drop (es.l.length*i.size+news.length)).toArray,?_,by rw[ao.jX,lA];exact kP,h2,?_,?_⟩⟩
   ·simp only[Ctx.add,if_true,ao.jX,lA]
   ·simp only[Ctx.add,if_true];exact setRow_heap w _ _ _ _ _ h3
   ·simp only[bA,lA,bD,bF,Array.length_toList]
    rw[h4];omega
 ·have ig:=Qmv (P:=P) w (ty:=ty) (n:=es.l.length) (cap:=cap) (a:=some ⟨c.ρ r,0,none⟩) (kU:=kU) (news:=news) ht pB hx hi hz g2
   (by have:=g3 _ (aO _) w.drew rfl;rwa [fM (by omega)]at this)
   (run_firstCells_some (P:=P) w.drew i.size es.l.length _ _ cap kU o1 λj v hj=>by
    rw[qv (w:=w.drew) h3];exact o2 j v hj) (by omega) (by omega) (growslice_fits (by omega) hlen)
  have pK:=grownCap_ge w (es.l.length+ys.l.length) cap e
  have AD:grownCap w (es.l.length+ys.l.length) cap e<=maxLen:=grownCap_le_maxLen w _ _ e YY
  generalize grownCap w (es.l.length+ys.l.length) cap e=gc at ig pK AD
  have mr:(kU.toArray++news.toArray++Builtin.zeroCells z.cells (gc-(es.l.length+ys.l.length))).size=gc*i.size:=by
   have e1:(kU.toArray++news.toArray++Builtin.zeroCells z.cells (gc-(es.l.length+ys.l.length))).size=es.l.length*i.size+ys.l.length*i.size+(gc-(es.l.length+ys.l.length))*i.size:=by
    simp[size_zeroCells,FH,g1,o1]
   rw[e1,<-bC,<-bC]
   congr 1;omega
  have hE:∀(I:ae) (w':World),(∀b,c.I b->I b/\w'.heap[b]?=w.heap[b]?)->iJ I w' (es.app ys).l (kU.toArray++news.toArray++Builtin.zeroCells z.cells (gc-(es.l.length+ys.l.length))) 0 i.size:=λI w' h=>by
   rw[ao.jX]
   have:=YX (I:=I) (w:=w') (es:=es.l) (ys:=ys.l) (A:=kU) (B:=news) (C:=(Builtin.zeroCells z.cells (gc-(es.l.length+ys.l.length))).toList) (sz:=i.size) (od h _ _ _ _ o3) o1 (od h _ _ _ _ g4) g1
   have h2:(kU.toArray++news.toArray++Builtin.zeroCells z.cells (gc-(es.l.length+ys.l.length)))=(kU++news++(Builtin.zeroCells z.cells (gc-(es.l.length+ys.l.length))).toList).toArray:=by apply fS;simp
   rw[h2];exact this
  have Hq:=Mem.alloc (w:=w.drew) (Ky Ce) FG ⟨false,e,i.size,es.app ys⟩ (kU.toArray++news.toArray++Builtin.zeroCells z.cells (gc-(es.l.length+ys.l.length))) h0 (by
   simp only[aN,if_false]
   exact hE _ _ λb hb=>⟨hb,rfl⟩)
  have oB:=YZ (c:=c.kill [r]) (w:=w.drew) (k:=R.length) (e:=e) (sz:=i.size) (cap:=gc) (es:=es.app ys) (arr:=kU.toArray++news.toArray++Builtin.zeroCells z.cells (gc-(es.l.length+ys.l.length))) (by rw[ao.jX,lA];omega) AD mr.symm
  refine⟨_,_,(c.kill [r]).add R.length ⟨false,e,i.size,es.app ys⟩ w.heap.size,ig,⟨Hq,(Ng _ w).trans (jk.alloc (w:=w.drew) (Ky Ce) FG _ _),?_,λb hb=>.inl hb,λq ak p1 p2=>?_⟩,Uz (ρ':=c.ρ) (V':=c.V) hR,by rw[ao.jX,lA]at oB;exact oB⟩
  ·exact Fr.trans (w':=w.drew) ⟨rfl,rfl,rfl,aO _,λ_ _ _=>rfl⟩ (Fr.alloc _ w.drew _)
  ·by_cases e1:q=R.length
   ·subst e1
    right;right
    simp[Ctx.add]
   ·have o9:(c.kill [r]).R q=some ak:=by simpa[Ctx.add,e1]using p1
    obtain⟨_,jY,Jw,_⟩:=oh o9
    exact .inl ⟨⟨jY,Jw⟩,by simpa[Ctx.add,e1,Ctx.kill]using p2,by simp[Ctx.add,e1,Ctx.kill]⟩
theorem Zot{t tx ty:TypeId}{i:TypeInfo}{z:Value}{ux:TypeDesc}(ht:P.underlying t=some (.slice e))(pB:P.underlying tx=some ux)(hx:∀k,ux≠.int k)(hi:P.info? e=some i)(hz:i.zero=some z)(fx:i.size=sz)(uJ:i.bytes=lQ)(FH:z.cells.size=sz)
 (hm:Mem c w) (hb:c.base<=w.heap.size) (hR:∀r,c.R r=R.getD r none) (h0:0<sz) (pA:0<lQ) (oA:lQ*(es.l.length+ys.l.length)<=140737488355328) {r:Nat} (hr:R.getD r none=some ⟨false,e,sz,es⟩) {vx vy:Value} (Y0:Rep c w (.all r) vx) (hs:Src P c w vy ys.l sz):
 ∃v' w' c',(Builtin.append_ #[t,tx] ty #[vx,vy]).run P w=.ok v' w'/\jF [r] c w c' w'/\(∀q,c'.R q=(r6 [r] R 0++[some (⟨false,e,sz,es.app ys⟩:Row)]).getD q none)/\Rep c' w' (.all R.length) v':=by
 obtain⟨row,q1,q2,hv⟩:=Y0
 have cb:row=⟨false,e,sz,es⟩:=by rw[hR,hr]at q1;exact(Option.some.inj q1).symm
 subst cb
 rcases hv with⟨hV,a,hv,AF⟩|⟨hV,cap,cur,hv,h1,h2,h3,h4⟩
 ·have he:=(hm.oe q1 hV).2.1
  simp only at he
  subst hv
  have hl:(es.app ys).l=ys.l:=by rw[ao.jX,he];rfl
  exact append_empty (ks:=[r]) (ys:=es.app ys) ht pB hx hi hz fx uJ FH hm hb hR h0 pA (by rw[hl];rw[he]at oA;simpa using oA) AF (by rw[hl];exact hs)
 ·have hl:=hm.real q1 hV
  obtain⟨NI,jC,_,JE⟩:=hl
  simp only at h1 h3 h4 hv jC
  subst hv
  rw[h3]at jC;cases jC
  simp only[aN,if_false]at JE
  exact Zg2 ht pB hx hi hz fx uJ FH hm hb hR h0 pA oA q1 rfl hV h1 h2 h3 h4 JE hs
theorem Zog{n:Nat}{t tx ty:TypeId}{i:TypeInfo}{z:Value}{ux:TypeDesc}(ht:P.underlying t=some (.slice e))(pB:P.underlying tx=some ux)(hx:∀k,ux≠.int k)(hi:P.info? e=some i)(hz:i.zero=some z)(fx:i.size=sz)(uJ:i.bytes=lQ)(FH:z.cells.size=sz)
 (hm:Mem c w) (hb:c.base<=w.heap.size) (hR:∀r,c.R r=R.getD r none) (h0:0<sz) (pA:0<lQ) (oA:lQ*((es.take n).l.length+ys.l.length)<=140737488355328) {r:Nat} (hr:R.getD r none=some ⟨false,e,sz,es⟩) {vx vy:Value} (Y0:Rep c w (.own r 0 n) vx) (hs:Src P c w vy ys.l sz):
 ∃v' w' c',(Builtin.append_ #[t,tx] ty #[vx,vy]).run P w=.ok v' w'/\jF [r] c w c' w'/\(∀q,c'.R q=(r6 [r] R 0++[some (⟨false,e,sz,(es.take n).app ys⟩:Row)]).getD q none)/\Rep c' w' (.all R.length) v':=by
 obtain⟨row,q1,q2,hle,hv⟩:=Y0
 have cb:row=⟨false,e,sz,es⟩:=by rw[hR,hr]at q1;exact(Option.some.inj q1).symm
 subst cb
 have hln:(es.take n).l.length=n:=by rw[ao.iZ,bD];simp only at hle;omega
 rcases hv with⟨h0',a,hv,AF⟩|⟨hV,cap,cur,h1,h2,h3,hv,h4⟩
 ·subst hv;subst h0'
  have Mp:(es.take 0).l=[]:=by rw[ao.iZ];rfl
  have hl:((es.take 0).app ys).l=ys.l:=by rw[ao.jX,Mp];rfl
  have g:jk c w {c with top:=w.heap.size} w:=⟨rfl,hm.top,λb hb=>⟨hb,rfl⟩,λr row hr=>⟨row,hr,rfl,rfl,rfl,rfl,rfl,Iff.rfl,λnv arr ha=>⟨arr,ha,rfl⟩⟩⟩
  have Iw:Mem {c with top:=w.heap.size} w:=⟨λr row hr=>tX g rfl Iff.rfl (λ_=>rfl) (hm.row r row hr),hm.inj,hm.fu,aO _,hm.kN⟩
  have Gp:AE w.heap.size a:=by
   rcases AF with h|⟨hV,h⟩
   ·exact h.mono hm.top
   ·exactλx hx=>by rw[h x hx];exact hm.lt q1 hV
  obtain⟨v',w',c',p1,p2,p3,p4⟩:=append_empty (c:={c with top:=w.heap.size}) (ks:=[r]) (ys:=(es.take 0).app ys) ht pB hx hi hz fx uJ FH Iw hb hR h0 pA (by rw[hl];rw[Mp]at oA;simpa using oA) Gp (by rw[hl];exact hs)
  refine⟨v',w',c',p1,⟨p2.mem,?_,p2.fr,p2.fu,p2.og⟩,p3,p4⟩
  have g':jk (c.kill [r]) w (Ctx.kill {c with top:=w.heap.size} [r]) w:=⟨rfl,hm.top,λb hb=>⟨hb,rfl⟩,λr row hr=>⟨row,hr,rfl,rfl,rfl,rfl,rfl,Iff.rfl,λnv arr ha=>⟨arr,ha,rfl⟩⟩⟩
  exact g'.trans p2.bz
 ·obtain⟨NI,jC,_,JE⟩:=hm.real q1 hV
  simp only at h3 h4 hv jC
  rw[h3]at jC;cases jC
  simp only[aN,if_false]at JE
  have hE1:iJ c.I w (es.take n).l cur 0 sz:=by rw[ao.iZ];exact Mo JE
  rw[hv,show((0:Nat)*sz)=0 from Nat.zero_mul _]
  have:=Zg2 (ty:=ty) (es:=es.take n) (cap:=cap) ht pB hx hi hz fx uJ FH hm hb hR h0 pA oA q1 rfl hV (by rw[hln];exact h1) h2 h3 (by rw[<-h4,aX]) hE1 hs
  rw[hln]at this
  exact this
end
theorem SF{E:ao}(h:IG E=true):E.l=[]:=by
 unfold IG at h
 split at h
 ·rfl
 ·cases h
theorem Zmw{P:Program}{T:fq}(hT:jz P T){M:Nat}{t tx ty:TypeId}{x y:D}{R:Rows}{K:List Nat->D->Rows->Prop}(h:Mq T M t tx x y R K):
    ∃ ks R',K ks (.all R.length) R'/\(∀k,bw k ks=true->M<=k)/\ ∀c w vx vy,Mem c w->c.base<=w.heap.size->(∀r,c.R r=R.getD r none)->Rep c w x vx->Rep c w y vy->
      ∃v' w' c',(Builtin.append_ #[t,tx] ty #[vx,vy]).run P w= .ok v' w'/\jF ks c w c' w'/\(∀r,c'.R r=R'.getD r none)/\Rep c' w' (.all R.length) v':=by
  unfold Mq at h
  split at h
  . rename_i e iN _ _ _ _ _ ht
    have hk:=mX hT ht
    simp only at hk
    split at h
    . rename_i ke sz lQ cs z q kx _ _ _ _ _ he htx
      obtain⟨i,u,hi,hu,JF,hs,hb,hc,hzero⟩:=JG hT he
      have UA:=mX hT htx
      split at h
      . rename_i sy ys jW
        simp only[da,aE,Bool.or_eq_true]at h
        obtain⟨⟨⟨⟨h0,h1⟩,h2,h3⟩,h4,h5⟩,h⟩:=h
        have h0:0<sz:=lE h0
        have pA:0<lQ:=lE h4
        have h2:=bE h2
        have h5:sy=sz\/ys.l=[]:=h5.imp bE SF
        have wV:u.cells.size=sz:=by have:=PV JF;simp at this;omega
        obtain⟨ux,pB,nF⟩: ∃ux,P.underlying tx=some ux/\ ∀k,ux≠ .int k:=by
          unfold CH at jW
          split at jW
          . simp only at UA;exact⟨_,UA.1,λk e=>by cases e⟩
          . simp only at UA;exact⟨_,UA,λk e=>by cases e⟩
          . cases jW
        have wW: ∀(c:Ctx) (w:World) (vy:Value),Mem c w->(∀r,c.R r=R.getD r none)->Rep c w y vy->Src P c w vy ys.l sz:=λc w vy hm hR hy=>v8 h0 jW h5 hm (λr row ak g1 g2=>by rw[hR,g2]at g1;exact(Option.some.inj g1).symm) hy
        cases x<;>simp only at h
        case du=>
          simp only[CJ,da,decide_eq_true_eq,nn,<-ao.iw]at h
          refine⟨_,_,h.2,λk hk=>by simp [bw]at hk,λc w vx vy hm tG hR hx hy=> ?_⟩
          rw[show vx=_ from hx]
          have hl:((ao.gen []).app ys).l=ys.l:=by rw[ao.jX];rfl
          exact append_empty (ks:=[]) (ys:=(ao.gen []).app ys) hk.1 pB nF hi hu hs hb wV hm tG hR h0 pA (by rw[hl];have:=h.1;simpa [ao.l] using this) Nu (by rw[hl];exact wW c w vy hm hR hy)
        case emp=>
          simp only[CJ,da,decide_eq_true_eq,nn,<-ao.iw]at h
          refine⟨_,_,h.2,λk hk=>by simp [bw]at hk,λc w vx vy hm tG hR hx hy=> ?_⟩
          obtain⟨a,hx,AF⟩:=hx
          rw[hx]
          have hl:((ao.gen []).app ys).l=ys.l:=by rw[ao.jX];rfl
          exact append_empty (ks:=[]) (ys:=(ao.gen []).app ys) hk.1 pB nF hi hu hs hb wV hm tG hR h0 pA (by rw[hl];have:=h.1;simpa [ao.l] using this) AF (by rw[hl];exact wW c w vy hm hR hy)
        case all r=>
          split at h
          . rename_i jU s es hr
            simp only[aE,CJ,da,decide_eq_true_eq,nn,<-ao.iw]at h
            obtain⟨⟨⟨g1,g2⟩,g3⟩,g5,g6⟩:=h
            have g1:=bE g1
            have g2:=bE g2
            subst g1;subst g2
            refine⟨_,_,g6,λk hk=> ?_,λc w vx vy hm tG hR hx hy=> ?_⟩
            . have:=oj.1 hk
              simp at this
              rw[this];exact lE g3
            . exact Zot hk.1 pB nF hi hu hs hb wV hm tG hR h0 pA g5 hr hx (wW c w vy hm hR hy)
          . exact h.elim
        case own r o n=>
          split at h
          . rename_i jU s es hr
            simp only[aE,CJ,da,decide_eq_true_eq,nn,<-ao.iw]at h
            obtain⟨⟨⟨g1,g2⟩,g3,g4⟩,g5,g6⟩:=h
            have g1:=bE g1
            have g2:=bE g2
            have g4:=bE g4
            subst g1;subst g2;subst g4
            refine⟨_,_,g6,λk hk=> ?_,λc w vx vy hm tG hR hx hy=> ?_⟩
            . have:=oj.1 hk
              simp at this
              rw[this];exact lE g3
            . exact Zog hk.1 pB nF hi hu hs hb wV hm tG hR h0 pA g5 hr hx (wW c w vy hm hR hy)
          . exact h.elim
      . exact h.elim
    . exact h.elim
  . exact h.elim
theorem Z58{c:Ctx}{w:World}{d:D}{v:Value}(gl:∀f cs,d≠.gq f cs)(h:cv c w d v):cv {c with base:=0} w d v:=by
 cases d with
 |sl sz es fr=>
  obtain⟨a,cap,hv,hc,ij⟩:=h
  refine⟨a,cap,hv,hc,?_⟩
  rcases ij with ij|⟨b,off,arr,ty,fz,ha,hI,hf,hh,hE⟩
  ·exact .inl ij
  ·exact .inr ⟨b,off,arr,ty,fz,ha,hI,λ_=>Nat.zero_le _,hh,hE⟩
 |gq f cs=>exact absurd rfl (gl f cs)
 |_=>exact h
theorem Y1{c:Ctx}{w:World}{d:D}{v:Value}(h:cv c w d v):cv {c with base:=0} w d v:=by
 by_cases e:∃g cs,d=.gq g cs
 ·obtain⟨g,cs,rfl⟩:=e
  obtain⟨us,hv,hu⟩:=h
  exact⟨us,hv,YT (c:=c) (w:=w) (c':={c with base:=0}) (w':=w) (S:=λ_=>True) (λd v q1 _ q2=>Z58 q1 q2) (λ_ hb=>⟨hb,rfl⟩) (λ_ _=>trivial) hu⟩
 ·exact Z58 (λf cs e'=>e ⟨f,cs,e'⟩) h
theorem Z5c{c:Ctx}{w:World}:∀{ds:List D} {vs:List Value},jm c w ds vs->jm {c with base:=0} w ds vs
 |[],[],_=>trivial
 |_::_,_::_,h=>⟨Y1 h.1,Z5c h.2⟩
 |[],_::_,h=>h.elim
 |_::_,[],h=>h.elim
theorem Z8x{c:Ctx}{w:World}{d:D}{v:Value}(h:VRep c w d v):VRep {c with base:=0} w d v:=by
 cases d with
 |agg cs=>obtain⟨vs,hv,hr⟩:=h;exact⟨vs,hv,Z5c hr⟩
 |_=>exact VRep.EK (Y1 (VRep.toC (λcs e=>by cases e) h))
theorem Y2{c:Ctx}{w:World}:∀{ds:List D} {vs:List Value},j8 c w ds vs->j8 {c with base:=0} w ds vs
 |[],[],_=>trivial
 |_::_,_::_,h=>⟨Z8x h.1,Y2 h.2⟩
 |[],_::_,h=>h.elim
 |_::_,[],h=>h.elim
theorem Qzb{c:Ctx}{w:World}:∀{ds:List D} {arr:Array Value} {off:Nat},kK c w ds arr off->kK {c with base:=0} w ds arr off
 |[],_,_,_=>trivial
 |_::_,_,_,⟨⟨v,hv,h1⟩,h2⟩=>⟨⟨v,hv,Y1 h1⟩,Qzb h2⟩
theorem Zh2{c:Ctx}{w:World}(h:Mem c w):Mem {c with base:=0} w:=by
 refine⟨λr row hr=>?_,h.inj,h.fu,h.top,h.kN⟩
 rcases h.row r row hr with h0|⟨h0,arr,ha,hs,hx⟩
 ·exact .inl h0
 ·refine .inr ⟨h0,arr,ha,hs,?_⟩
  split
  ·rename_i hb
   rw[if_pos hb]at hx
   obtain⟨e,k1,k2,k3,k4⟩:=hx
   exact⟨e,k1,k2,k3,Qzb k4⟩
  ·rename_i hb
   rw[if_neg hb]at hx
   exact hx
theorem Qyb{f:Nat->Nat}:∀{ids:List Nat} {rows:List Row} {R:Rows},ids.Nodup->ids.length<=rows.length->(∀r∈ids,r<R.length)->
 (FI f ids rows R).length=R.length/\(∀(i r:Nat),ids[i]?=some r->∃row,rows[i]?=some row/\(FI f ids rows R).getD r none=some (row.jg f false))/\∀r,r∉ids->(FI f ids rows R).getD r none=R.getD r none
 |[],rows,R,_,_,_=>by
  have:FI f [] rows R=R:=by cases rows<;>rfl
  rw[this]
  exact⟨rfl,λi r h=>by simp at h,λ_ _=>rfl⟩
 |r::ids,[],R,_,hl,_=>by simp at hl
 |r ::ids,row::rows,R,kZ,hl,cg=>by
  obtain⟨IE,JH⟩:=List.nodup_cons.1 kZ
  obtain⟨g1,g2,g3⟩:=Qyb (f:=f) (ids:=ids) (rows:=rows) (R:=R.set r (some (row.jg f false))) JH (by simpa using hl) (λq hq=>by simpa using cg q (by simp[hq]))
  have hr:=cg r (by simp)
  have JA:(R.set r (some (row.jg f false))).getD r none=some (row.jg f false):=by simp[aK,hr]
  have gl:∀q,q≠r->(R.set r (some (row.jg f false))).getD q none=R.getD q none:=λq hq=>by simp[aK,List.getElem?_set_ne (Ne.symm hq)]
  simp only[FI]
  refine⟨by simpa using g1,λi q hq=>?_,λq hq=>?_⟩
  ·cases i with
   |zero=>
    simp at hq;subst hq
    exact⟨row,rfl,by rw[g3 _ IE];exact JA⟩
   |succ i=>simpa using g2 i q (by simpa using hq)
  ·have h1:q≠r:=λe=>hq (by simp[e])
   rw[g3 q (λe=>hq (by simp[e])),gl q h1]
def Ctx.ea(c:Ctx)(c':Ctx)(kl n0:Nat)(R2:Rows):Ctx:=
 { ρ:=λr=>if n0<=r/\r<R2.length then c'.ρ (kl+(r-n0)) else c.ρ r,
   R:=λr=>R2.getD r none,
   V:=λr=>if n0<=r/\r<R2.length then c'.V (kl+(r-n0)) else c.V r,
   I:=c'.I,base:=c.base,top:=c'.top,X:=c.X}
theorem Mr{i k n:Nat}:bw i (bK k n)=true↔k<=i/\i<k+n:=by
 rw[oj,List.mem_range'_1]
theorem Z9k{c c':Ctx}{w w':World}{R:Rows}{ids:List Nat}{k:Nat}{dz aj:List Row}(hm:Mem c w)(hR:∀r,c.R r=R.getD r none)
 (kZ:ids.Nodup) (cw:Bv R (λr=>pos r ids 0) ids=some dz) (hle:(ids.take k).length<=aj.length)
 (hx:jF (bK k (dz.length-k)) {c.pass w ids dz false with base:=0} w c' w') (jV:∀i,c'.R i=aj[i]?)
 {R2:Rows} (uK:R2=FI (bk (ids.take k) R.length) (ids.take k) aj (r6 (ids.drop k) R 0)++PW (bk (ids.take k) R.length) (aj.drop (ids.take k).length)):
 Em (λ_=>True) (bk (ids.take k) R.length) false c' (c.ea c' (ids.take k).length R.length R2)/\
 jF (ids.drop k) c w (c.ea c' (ids.take k).length R.length R2) w':=by
 obtain⟨gn,AW⟩:=FJ cw
 generalize hf:bk (ids.take k) R.length=f at*
 generalize Y3:(ids.take k).length=kl at*
 have nU:∀r row,R.getD r none=some row->c.R r=some row:=λr row e=>by rw[hR];exact e
 have cg:∀r∈ids,r<R.length:=λr hr=>by
  obtain⟨row,h1,_⟩:=AW _ r (Bw hr)
  by_cases hl:r<R.length
  ·exact hl
  ·rw[aK,aM (by omega)]at h1;cases h1
 have htd:ids.take k++ids.drop k=ids:=List.take_append_drop k ids
 have Y4:(ids.take k).Nodup:=by rw[<-htd]at kZ;exact(List.nodup_append.1 kZ).1
 have PX:∀r,r∈ids.take k->r∈ids.drop k->False:=λr h1 h2=>by
  rw[<-htd]at kZ
  exact(List.nodup_append.1 kZ).2.2 r h1 r h2 rfl
 have Jaz:kl=min k ids.length:=by rw[<-Y3];simp
 have CK:∀i,i<kl->(ids.take k)[i]?=ids[i]? :=λi hi=>by rw[aU,if_pos (by omega)]
 have sT:∀i r,ids[i]?=some r->kl<=i->r∈ids.drop k:=λi r hi pK=>by
  have mU:=(List.getElem?_eq_some_iff.1 hi).1
  have:(ids.drop k)[i-k]?=some r:=by rw[fT,show k+(i-k)=i by omega];exact hi
  exact fW this
 obtain⟨k1,k2,k3⟩:=Qyb (f:=f) (ids:=ids.take k) (rows:=aj) (R:=r6 (ids.drop k) R 0) Y4 (by rw[Y3];exact hle) (λr hr=>by rw[JC];exact cg r (cX hr))
 rw[JC]at k1
 have wj:R2.length=R.length+(aj.length-kl):=by rw[uK];simp[k1,PW]
 have PY:∀r,r<R.length->R2.getD r none=(FI f (ids.take k) aj (r6 (ids.drop k) R 0)).getD r none:=λr hr=>by
  rw[uK,aK,aK,aZ (by omega)]
 have Y5:∀i,kl<=i->i<aj.length->R2.getD (R.length+(i-kl)) none=aj[i]?.map λrow=>row.jg f false:=λi h1 h2=>by
  have:∀(l:List Row) (j:Nat),(PW f l)[j]?=l[j]?.map λrow=>some (row.jg f false):=λl j=>by simp[PW]
  rw[uK,aK,bB (by omega),this,k1,show R.length+(i-kl)-R.length=i-kl by omega,fT,show kl+(i-kl)=i by omega]
  rw[cG h2];rfl
 have jA:∀i r ak,i<kl->ids[i]?=some r->c'.R i=some ak->∃row,c.R r=some row/\ak.box=row.box/\ak.ty=row.ty/\ak.sz=row.sz/\ak.es.l.length=row.es.l.length/\c'.ρ i=c.ρ r/\(c'.V i↔c.V r)/\r<R.length/\R2.getD r none=some (ak.jg f false)/\f i=r/\
  (¬c.V r->∀arr,w.heap[c.ρ r]?=some (.cells arr row.ty (0,0))->∃iO,w'.heap[c.ρ r]?=some (.cells iO row.ty (0,0))/\iO.size=arr.size):=by
  intro i r ak nZ hi jl
  obtain⟨row,h1,h2⟩:=AW i r hi
  have kC:=fW hi
  have h3:=nU r row h1
  have CL:(({c.pass w ids dz false with base:=0}:Ctx).kill (bK k (dz.length-k))).R i=some ((row.jg (λr=>pos r ids 0) false).kill (bK k (dz.length-k))):=by
   simp only[Ctx.kill,Ctx.pass]
   rw[if_neg (λe=>by have:=Mr.1 e;omega),h2];rfl
  obtain⟨ov,g1,g2,g3,g4,g5,g6,gV,g7⟩:=hx.bz.R i _ CL
  rw[jl]at g1;cases g1
  obtain⟨s1,s2,s3,s4⟩:=JI (λr=>pos r ids 0) false row
  obtain⟨t1,t2,t3,t4⟩:=wq (bK k (dz.length-k)) (row.jg (λr=>pos r ids 0) false)
  have iz:=(CK i nZ).trans hi
  obtain⟨kW,q1,q2⟩:=k2 i r iz
  rw[jV,q1]at jl;cases jl
  refine⟨row,h3,g2.trans (t1.trans s1),g3.trans (t2.trans s2),g4.trans (t3.trans s3),g5.trans (t4.trans s4),by simpa[Ctx.kill,Ctx.pass,hi]using g6,by simpa[Ctx.kill,Ctx.pass,hi]using gV,cg r kC,by rw[PY r (cg r kC)];exact q2,by rw[<-hf];simp[bk,iz],λnv arr ha=>?_⟩
  have:=g7 (by simpa[Ctx.kill,Ctx.pass,hi]using nv) arr (by simpa[Ctx.kill,Ctx.pass,hi,s2,t2]using ha)
  simpa[Ctx.kill,Ctx.pass,hi,s2,t2]using this
 have GF:∀i ak,c'.R i=some ak->¬c'.V i->(∃j s row,ids[j]?=some s/\c.R s=some row/\¬c.V s/\c'.ρ i=c.ρ s/\(i<kl->j=i)/\(kl<=i->s∈ids.drop k))\/w.heap.size<=c'.ρ i:=by
  intro i ak h1 nv
  by_cases nZ:i<kl
  ·have iz:ids[i]?=some ids[i]:=cG (by omega)
   obtain⟨row,g1,g2,g3,g4,g5,g6,g7,_⟩:=jA i _ ak nZ iz h1
   exact .inl ⟨i,_,row,iz,g1,λe=>nv (g7.2 e),g6,λ_=>rfl,λh=>by omega⟩
  ·rcases hx.og i ak h1 nv with⟨⟨x,nK⟩,v,e⟩|⟨s,x,hs,nK,v,e⟩|e
   ·have I6:dz[i]?=some x:=nK
    have Hr:=(List.getElem?_eq_some_iff.1 I6).1
    have iz:ids[i]?=some ids[i]:=cG (by omega)
    obtain⟨row,g1,g2⟩:=AW i _ iz
    exact .inl ⟨i,_,row,iz,nU _ _ g1,by simpa[Ctx.pass,iz]using v,by simpa[Ctx.pass,iz]using e,λh=>by omega,λ_=>sT i _ iz (by omega)⟩
   ·have I6:dz[s]?=some x:=nK
    have Hr:=(List.getElem?_eq_some_iff.1 I6).1
    have iz:ids[s]?=some ids[s]:=cG (by omega)
    obtain⟨row,g1,g2⟩:=AW s _ iz
    have hsk:=(Mr.1 hs).1
    exact .inl ⟨s,_,row,iz,nU _ _ g1,by simpa[Ctx.pass,iz]using v,by simpa[Ctx.pass,iz]using e,λh=>by omega,λ_=>sT s _ iz (by omega)⟩
   ·exact .inr e
 have new:∀i ak,kl<=i->c'.R i=some ak->i<aj.length/\R2.getD (R.length+(i-kl)) none=some (ak.jg f false)/\f i=R.length+(i-kl):=by
  intro i ak hi jl
  have h1:aj[i]?=some ak:=by rw[<-jV];exact jl
  have h2:=(List.getElem?_eq_some_iff.1 h1).1
  refine⟨h2,by rw[Y5 i hi h2,h1];rfl,?_⟩
  rw[<-hf]
  simp only[bk]
  rw[aM (by omega),Y3]
 have CM:Em (λ_=>True) f false c' (c.ea c' kl R.length R2):=by
  refine⟨λi ak _ jl=>?_,(λh=>by cases h),aO _⟩
  obtain⟨s1,s2,s3,s4⟩:=JI f false ak
  by_cases hi:i<kl
  ·have iz:ids[i]?=some ids[i]:=cG (by omega)
   obtain⟨row,g1,g2,g3,g4,g5,g6,g7,g8,g9,g10,_⟩:=jA i _ ak hi iz jl
   rw[g10]
   exact⟨_,g9,s1,s2,s3,s4,by simp only[Ctx.ea];rw[if_neg (by omega),g6],by simp only[Ctx.ea];rw[if_neg (by omega)];exact g7.symm⟩
  ·obtain⟨h1,h2,h3⟩:=new i ak (by omega) jl
   rw[h3]
   have hc:R.length<=R.length+(i-kl)/\R.length+(i-kl)<R2.length:=by omega
   have he:kl+(R.length+(i-kl)-R.length)=i:=by omega
   exact⟨_,h2,s1,s2,s3,s4,by simp only[Ctx.ea];rw[if_pos hc,he],by simp only[Ctx.ea];rw[if_pos hc,he]⟩
 have Cd:Fr (λb=>∃r x,c.R r=some x/\¬c.V r/\r∈ids/\c.ρ r=b) w w':=hx.fr.mono λb _ ⟨i,x,h1,h2,h3⟩=>by
  have o9:dz[i]?=some x:=h1
  have hi:i<ids.length:=by have:=(List.getElem?_eq_some_iff.1 o9).1;omega
  have iz:ids[i]?=some ids[i]:=cG hi
  obtain⟨row,g1,g2⟩:=AW i _ iz
  exact⟨_,row,nU _ row g1,by simpa[Ctx.pass,iz]using h2,fW iz,by simpa[Ctx.pass,iz]using h3⟩
 have rest:∀r,r∉ids->r<R.length->R2.getD r none=(R.getD r none).map (Row.kill (ids.drop k)):=λr h1 h2=>by
  rw[PY r h2,k3 r (λe=>h1 (cX e)),PU,aX,if_neg (λe=>h1 (cY (oj.1 e)))]
 have gone:∀r,r∈ids.drop k->R2.getD r none=none:=λr h=>by
  rw[PY r (cg r (cY h)),k3 r (λe=>PX r e h),PU,aX,if_pos (oj.2 h)]
 have inv:∀r x,(c.ea c' kl R.length R2).R r=some x->(∃i ak,c'.R i=some ak/\x=ak.jg f false/\(c.ea c' kl R.length R2).ρ r=c'.ρ i/\((c.ea c' kl R.length R2).V r↔c'.V i)/\(i<kl/\ids[i]?=some r/\(c.ea c' kl R.length R2).ρ r=c.ρ r/\((c.ea c' kl R.length R2).V r↔c.V r)\/R.length<=r/\kl<=i/\r=R.length+(i-kl)))\/
  (∃row,c.R r=some row/\x=row.kill (ids.drop k)/\r∉ids/\(c.ea c' kl R.length R2).ρ r=c.ρ r/\((c.ea c' kl R.length R2).V r↔c.V r)):=by
  intro r x jE
  have jE:R2.getD r none=some x:=jE
  by_cases kC:r∈ids
  ·by_cases hg:r∈ids.drop k
   ·rw[gone r hg]at jE;cases jE
   ·left
    have hp:=Bw kC
    have Bx:pos r ids 0<kl:=by
     by_cases h:pos r ids 0<kl
     ·exact h
     ·exact(hg (sT _ r hp (by omega))).elim
    obtain⟨kW,q1,q2⟩:=k2 _ r ((CK _ Bx).trans hp)
    have rB:c'.R (pos r ids 0)=some kW:=by rw[jV];exact q1
    obtain⟨row,g1,g2,g3,g4,g5,g6,g7,g8,g9,g10,_⟩:=jA _ r kW Bx hp rB
    rw[g9]at jE
    cases jE
    have e1:(c.ea c' kl R.length R2).ρ r=c.ρ r:=by simp only[Ctx.ea];rw[if_neg (by omega)]
    have e2:(c.ea c' kl R.length R2).V r↔c.V r:=by simp only[Ctx.ea];rw[if_neg (by omega)]
    exact⟨_,kW,rB,rfl,by rw[e1,g6],by rw[e2,g7],.inl ⟨Bx,hp,e1,e2⟩⟩
  ·by_cases hc:R.length<=r
   ·left
    have UB:r<R2.length:=by
     by_cases h:r<R2.length
     ·exact h
     ·rw[aK,aM (by omega)]at jE;cases jE
    have hi:kl+(r-R.length)<aj.length:=by omega
    have rB:c'.R (kl+(r-R.length))=some aj[kl+(r-R.length)]:=by rw[jV];exact cG hi
    obtain⟨h1,h2,h3⟩:=new _ _ (by omega) rB
    rw[show R.length+(kl+(r-R.length)-kl)=r by omega]at h2
    rw[h2]at jE
    cases jE
    exact⟨_,_,rB,rfl,by simp only[Ctx.ea];rw[if_pos ⟨hc,UB⟩],by simp only[Ctx.ea];rw[if_pos ⟨hc,UB⟩],.inr ⟨hc,by omega,by omega⟩⟩
   ·right
    rw[rest r kC (by omega)]at jE
    simp only[fQ]at jE
    obtain⟨row,h1,h2⟩:=jE
    exact⟨row,nU r row h1,h2.symm,kC,by simp only[Ctx.ea];rw[if_neg (by omega)],by simp only[Ctx.ea];rw[if_neg (by omega)]⟩
 have apart:∀r row i ak,c.R r=some row->r∉ids->¬c.V r->c'.R i=some ak->¬c'.V i->c'.ρ i≠c.ρ r:=λr row i ak h1 h2 h3 h4 h5 e=>by
  rcases GF i ak h4 h5 with⟨j,s,jy,q1,q2,q3,q4,_⟩|q
  ·have:=hm.inj s r jy row q2 h1 q3 h3 (by rw[<-q4,e])
   subst this
   exact h2 (fW q1)
  ·have:=hm.lt h1 h3;omega
 have pT:jk (c.kill (ids.drop k)) w (c.ea c' kl R.length R2) w':=by
  refine⟨rfl,hx.bz.top,λb iI=>?_,λr x hr=>?_⟩
  ·have h1:(({c.pass w ids dz false with base:=0}:Ctx).kill (bK k (dz.length-k))).I b:=.inl iI
   exact⟨(hx.bz.I b h1).1,(hx.bz.I b h1).2⟩
  ·obtain⟨UC,row,cb,rfl⟩:=oh hr
   have UC:r∉ids.drop k:=λe=>by rw[oj.2 e]at UC;cases UC
   obtain⟨u1,u2,u3,u4⟩:=wq (ids.drop k) row
   by_cases kC:r∈ids
   ·have hp:=Bw kC
    have Bx:pos r ids 0<kl:=by
     by_cases h:pos r ids 0<kl
     ·exact h
     ·exact(UC (sT _ r hp (by omega))).elim
    obtain⟨kW,q1,q2⟩:=k2 _ r ((CK _ Bx).trans hp)
    have rB:c'.R (pos r ids 0)=some kW:=by rw[jV];exact q1
    obtain⟨jY,g1,g2,g3,g4,g5,g6,g7,g8,g9,g10,g11⟩:=jA _ r kW Bx hp rB
    rw[cb]at g1;cases g1
    obtain⟨s1,s2,s3,s4⟩:=JI f false kW
    refine⟨_,g9,s1.trans (g2.trans u1.symm),s2.trans (g3.trans u2.symm),s3.trans (g4.trans u3.symm),s4.trans (g5.trans u4.symm),by simp only[Ctx.ea];rw[if_neg (by omega)];rfl,by simp only[Ctx.ea];rw[if_neg (by omega)];rfl,λnv arr ha=>?_⟩
    rw[u2]at ha⊢
    exact g11 nv arr ha
   ·have rC:r<R.length:=by
     by_cases h:r<R.length
     ·exact h
     ·rw[hR,aK,aM (by omega)]at cb;cases cb
    refine⟨row.kill (ids.drop k),?_,rfl,rfl,rfl,rfl,by simp only[Ctx.ea];rw[if_neg (by omega)];rfl,by simp only[Ctx.ea];rw[if_neg (by omega)];rfl,λnv arr ha=>⟨arr,?_,rfl⟩⟩
    ·show R2.getD r none=_
     rw[rest r kC rC,<-hR,cb];rfl
    ·have nv:¬c.V r:=nv
     show w'.heap[c.ρ r]?=_
     rw[Cd.heap _ (hm.lt cb nv) fun⟨s,x,h1,h2,h3,h4⟩=>kC (by rw[<-hm.inj s r x row h1 cb h2 nv h4];exact h3)]
     exact ha
 refine⟨CM,⟨λr x jE=>?_,λr s x y hr hs v1 v2 he=>?_,λb iI=>⟨(hx.mem.fu b iI).1,λr x hr v=>?_⟩,hx.mem.top,hx.mem.kN⟩,pT,Cd.mono λb _ ⟨r,x,h1,h2,_,h4⟩=>⟨r,x,h1,h2,h4⟩,λb iI=>?_,λr x hr v=>?_⟩
 ·rcases inv r x jE with⟨i,ak,h1,rfl,h3,h4,_⟩|⟨row,h1,rfl,h2,h3,h4⟩
  ·exact Y6 CM (flat:=False) (.inl λb hb=>hb) h3 h4 (λ_ _ _ _ _=>trivial) (λe=>e.elim) (hx.mem.row i ak h1)
  ·have hk:=Zlt (ks:=ids.drop k) (hm.row r row h1)
   exact tX pT h3 h4 (λnv=>Cd.heap _ (hm.lt h1 nv) fun⟨s,x',g1,g2,g3,g4⟩=>h2 (by rw[<-hm.inj s r x' row g1 h1 g2 nv g4];exact g3)) hk
 ·rcases inv r x hr with⟨i,x',h1,_,h3,h4,h5⟩|⟨row,h1,_,h2,h3,h4⟩<;>rcases inv s y hs with⟨j,y',g1,_,g3,g4,g5⟩|⟨jy,g1,_,g2,g3,g4⟩
  ·have:i=j:=hx.mem.inj i j x' y' h1 g1 (λe=>v1 (h4.2 e)) (λe=>v2 (g4.2 e)) (by rw[<-h3,<-g3];exact he)
   subst this
   rcases h5 with⟨q0,q1,_⟩|⟨_,q1,q2⟩<;>rcases g5 with⟨p0,p1,_⟩|⟨_,p1,p2⟩
   ·rw[q1]at p1;exact Option.some.inj p1
   ·omega
   ·omega
   ·omega
  ·exact(apart s jy i x' g1 g2 (λe=>v2 (g4.2 e)) h1 (λe=>v1 (h4.2 e)) (by rw[<-h3,<-g3];exact he)).elim
  ·exact(apart r row j y' h1 h2 (λe=>v1 (h4.2 e)) g1 (λe=>v2 (g4.2 e)) (by rw[<-h3,<-g3];exact he.symm)).elim
  ·exact hm.inj r s row jy h1 g1 (λe=>v1 (h4.2 e)) (λe=>v2 (g4.2 e)) (by rw[<-h3,<-g3];exact he)
 ·rcases inv r x hr with⟨i,x',h1,_,h3,h4,h5⟩|⟨row,h1,_,h2,h3,h4⟩
  ·rw[h3];exact(hx.mem.fu b iI).2 i x' h1 (λe=>v (h4.2 e))
  ·have nv:¬c.V r:=λe=>v (h4.2 e)
   rw[h3]
   rcases hx.fu b iI with q|⟨s,z,q1,q2,q3,q4⟩|q
   ·rcases q with q|⟨q,_⟩
    ·exact(hm.fu b q).2 r row h1 nv
    ·cases q
   ·intro e
    have hz:dz[s]?=some z:=q2
    have Hr:=(List.getElem?_eq_some_iff.1 hz).1
    have iz:ids[s]?=some ids[s]:=cG (by omega)
    obtain⟨jy,g1,g2⟩:=AW s _ iz
    have:=hm.inj _ r jy row (nU _ _ g1) h1 (by simpa[Ctx.pass,iz]using q3) nv (by rw[e];simpa[Ctx.pass,iz]using q4)
    exact h2 (by rw[<-this];exact fW iz)
   ·have:=hm.lt h1 nv;omega
 ·rcases hx.fu b iI with q|⟨s,z,q1,q2,q3,q4⟩|q
  ·rcases q with q|⟨q,_⟩
   ·exact .inl q
   ·cases q
  ·have hz:dz[s]?=some z:=q2
   have Hr:=(List.getElem?_eq_some_iff.1 hz).1
   have iz:ids[s]?=some ids[s]:=cG (by omega)
   obtain⟨jy,g1,g2⟩:=AW s _ iz
   have hsk:=(Mr.1 q1).1
   exact .inr (.inl ⟨_,jy,oj.2 (sT s _ iz (by omega)),nU _ _ g1,by simpa[Ctx.pass,iz]using q3,by simpa[Ctx.pass,iz]using q4⟩)
  ·exact .inr (.inr q)
 ·rcases inv r x hr with⟨i,x',h1,_,h3,h4,h5⟩|⟨row,h1,_,h2,h3,h4⟩
  ·rcases h5 with⟨q0,q1,q2,q3⟩|⟨q0,q1,q2⟩
   ·obtain⟨row,g1,_⟩:=jA i r x' q0 q1 h1
    exact .inl ⟨⟨row,g1⟩,λe=>v (q3.2 e),q2⟩
   ·rcases GF i x' h1 (λe=>v (h4.2 e))with⟨j,s,jy,p1,p2,p3,p4,_,p5⟩|p
    ·exact .inr (.inl ⟨s,jy,oj.2 (p5 q1),p2,p3,by rw[h3];exact p4⟩)
    ·exact .inr (.inr (by rw[h3];exact p))
  ·exact .inl ⟨⟨row,h1⟩,λe=>v (h4.2 e),h3⟩
def Hs(P:Program)(f:FuncId)(args:List Operand)(ev:Operand->D)(R:Rows)(ks:List Nat)(val:D)(R':Rows):Prop:=
 ∀ (c:Ctx) (w:World) (ρ:Operand->Value),Mem c w->c.base<=w.heap.size->(∀r,c.R r=R.getD r none)->(∀y∈args,Rep c w (ev y) (ρ y))->
  ∀K':Value->World->Prop,(∀v w' c',jF ks c w c' w'->(∀r,c'.R r=R'.getD r none)->Rep c' w' val v->K' v w')->Gv P c.I f (args.map ρ) w λe w'=>∃v,e=.returned v/\K' v w'
theorem Wx{P:Program}{G:List bc}{M:Nat}(hG:jT P G){f:FuncId}{k:Nat}{args:List Operand}{ev:Operand->D}{R:Rows}{K:List Nat->D->Rows->Prop}
 (lR:o8 G f=some k) (h:Io G M f k (args.map ev) R K):∃ks val R' x,K ks val R'/\oO G f=some x/\(x.refs≠[])/\(∀j,bw j ks=true->M<=j)/\Hs P f args ev R ks val R':=by
 unfold Io at h
 split at h
 ·rename_i x hx
  have wu:x.gone=some k:=by simpa[o8,hx]using lR
  obtain⟨dw,hf⟩:=Gg hG hx
  split at h
  ·rename_i az dz has iT
   simp only[da,aE]at h
   obtain⟨⟨⟨⟨hv,nt⟩,h1,h2⟩,h3,h4⟩,h⟩:=h
   generalize JJ:mC R x.refs (args.map ev)=ids at*
   have uL:=Ms.1 h1
   have gn:=Ms.1 h2
   have kZ:=Mt.1 h3
   have Ht:lN x.refs (args.map ev)=[]:=by
    revert hv
    cases lN x.refs (args.map ev)<;>simp
   have hrefs:x.refs≠[]:=λe=>by rw[e]at nt;simp at nt
   have main:∀res aj,Hu R (ids.take k) (ids.drop k) res aj K->sI P x.f k az dz res aj->
    ∃ks val R' y,K ks val R'/\oO G f=some y/\(y.refs≠[])/\(∀j,bw j ks=true->M<=j)/\Hs P f args ev R ks val R':=by
    intro res aj hK hA
    simp only[Hu,da,D.cq,nn]at hK
    obtain⟨hle,hK⟩:=hK
    have hle:=lE hle
    refine⟨_,_,_,x,hK,hx,hrefs,λj hj=>lE (List.all_eq_true.1 h4 j (oj.1 hj)),λc w ρ hm hb hR eu K' re=>?_⟩
    have nU:∀r row,r∈ids->R.getD r none=some row->c.R r=some row:=λr row _ e=>by rw[hR];exact e
    have o7:mJ c R:=λr row ak g1 g2=>by rw[hR,g2]at g1;exact(Option.some.inj g1).symm
    have hn:=UD (len:=false) (w:=w) nU iT
    have gb:=Mu (len:=false) (ρ:=ρ) hm o7 hn has (λe=>(e Ht).elim) (λr hr=>by rw[Ht]at hr;cases hr) uL eu
    have mq:=hA _ w _ (Zh2 (Y7 (len:=false) hm nU kZ gn iT)) rfl (λr=>rfl) (Y2 gb)
    rw[hf]at mq
    refine mq.mono (λb hb=>.inl hb) (λe w' sU=>?_)
    obtain⟨v,c',he,nF,jV,kQ⟩:=sU
    have:=Z9k (k:=k) hm hR kZ iT hle nF jV rfl
    exact⟨v,he,re v w' _ this.2 (λr=>rfl) (Y8 this.1 (flat:=False) (.inl λb hb=>hb) (λ_=>trivial) (λe=>e.elim) kQ)⟩
   split at h
   ·rename_i α v res aj hm
    exact main _ _ (h v rfl) (dw.PZ k wu _ _ _ _ _ _ hm)
   ·rename_i p α v res aj hm
    exact main _ _ (h.2 v rfl) (dw.Hv k wu _ _ _ _ _ _ _ hm h.1)
   ·exact h.elim
  ·exact h.elim
 ·exact h.elim
theorem Zlu{P:Program}{G:List bc}{M:Nat}(hG:jT P G){f:FuncId}(hy:f<YB){dst:Option Tmp}{k:Nat}{args:Array Operand}{dc:Array TypeId}{type:TypeId}{pos':String}{after:Array Edge}{guard:Option (Nat×Bool)}{ev:Operand->D}{R:Rows}{K:List Nat->D->Rows->Prop}
 (lR:o8 G f=some k) (h:Io G M f k (args.toList.map ev) R K):∃ks val R' x,K ks val R'/\oO G f=some x/\(x.refs≠[])/\(∀j,bw j ks=true->M<=j)/\BS P ⟨dst,.call ⟨.value (.func f),args,dc⟩,type,pos',after,guard⟩ ev R ks val R':=by
 obtain⟨ks,val,R',x,h1,h2,h3,h4,h5⟩:=Wx hG lR h
 obtain⟨dw,hf⟩:=Gg hG h2
 refine⟨ks,val,R',x,h1,h2,h3,h4,λc w a hm hb hR eu K' Q re=>?_⟩
 subst hf
 exact Y9 dw rfl hy ((h5 c w a.eval hm hb hR (λy hy=>eu y (by simp[Op.operands,Call.operands];exact .inr (by simpa using hy))) (λv w'=>K' (a.put dst v) w') λv w' c'=>re v w' c').1 hy)
def Ctx.only(c:Ctx)(ks:List Nat):Ctx:={c with R:=λr=>if bw r ks=true then(match c.R r with|some row=>if row.box=true then none else some row|none=>none)else none}
theorem Mv{c:Ctx}{ks:List Nat}{r:Nat}{x:Row}(h:(c.only ks).R r=some x):r∈ks/\c.R r=some x/\x.box=false:=by
 simp only[Ctx.only]at h
 split at h
 ·rename_i hm
  split at h
  ·rename_i row hr
   split at h
   ·cases h
   ·rename_i hb
    cases h
    exact⟨oj.1 hm,hr,by simpa using hb⟩
  ·cases h
 ·cases h
theorem xv{c:Ctx}{ks:List Nat}{r:Nat}{x:Row}(hm:r∈ks)(hr:c.R r=some x)(hb:x.box=false):(c.only ks).R r=some x:=by
 simp[Ctx.only,oj.2 hm,hr,hb]
theorem yQ{c:Ctx}{w:World}(hm:Mem c w)(ks:List Nat):Mem (c.only ks) w:=by
 refine⟨λr x hr=>?_,λr s x y hr hs=>?_,λb hb=>⟨(hm.fu b hb).1,λr x hr v=>?_⟩,hm.top,hm.kN⟩
 ·obtain⟨_,h1,h2⟩:=Mv hr
  rcases hm.row r x h1 with h|⟨h0,arr,ha,hs,hx⟩
  ·exact .inl h
  ·refine .inr ⟨h0,arr,ha,hs,?_⟩
   rw[if_neg (by rw[h2];simp)]at hx⊢
   exact hx
 ·exact hm.inj r s x y (Mv hr).2.1 (Mv hs).2.1
 ·exact(hm.fu b hb).2 r x (Mv hr).2.1 v
theorem Zh6{c:Ctx}{w:World}{R:Rows}{ks:List Nat}{d d':D}{v:Value}(h:FK R d=some d')(hl:∀r∈nN d,r∈ks)(hr:cv c w d v):cv (c.only ks) w d v:=by
 cases d<;>simp only[FK]at h<;>try(cases h;done)
 case all r=>
  obtain⟨row,g1,g2,g3⟩:=hr
  exact⟨row,xv (hl r (by simp[nN])) g1 g2,g2,g3⟩
 case own r o n=>
  obtain⟨row,g1,g2,g3,g4⟩:=hr
  exact⟨row,xv (hl r (by simp[nN])) g1 g2,g2,g3,g4⟩
 all_goals exact hr
theorem Zey{c:Ctx}{w:World}{R:Rows}{ks:List Nat}:∀{ds om:List D} {vs:List Value},JK R ds=some om->(∀r∈pU ds,r∈ks)->jm c w ds vs->jm (c.only ks) w ds vs
 |[],_,[],_,_,_=>trivial
 |d ::ds,om,v::vs,h,hl,hr=>by
  simp only[JK]at h
  split at h
  ·rename_i x xs h1 h2
   exact⟨Zh6 h1 (λr e=>hl r (by simp[pU,e])) hr.1,Zey h2 (λr e=>hl r (by simp[pU,e])) hr.2⟩
  ·cases h
 |[],_,_::_,_,_,h=>h.elim
 |_::_,_,[],_,_,h=>h.elim
theorem vQ{c:Ctx}{w:World}{R:Rows}{ks:List Nat}{d d':D}{v:Value}(h:conv R d=some d')(hl:∀r∈FL d,r∈ks)(hr:Rep c w d v):Rep (c.only ks) w d v:=by
 cases d with
 |agg cs=>
  simp only[conv,fQ]at h
  obtain⟨xs,h1,_⟩:=h
  obtain⟨vs,hv,hx⟩:=hr
  exact⟨vs,hv,Zey h1 hl hx⟩
 |dt ds=>simp[conv,FK]at h
 |dead=>trivial
 |_=>
  simp only[conv]at h
  simp only[Rep,VRep]at hr⊢
  exact Zh6 h hl hr
theorem Za0{R:Rows}{f:Nat->Nat}{ev:Operand->D}:∀{xs:List Operand} {az:List D},sV R f [] (xs.map ev)=some az->∀x∈xs,∃y,conv R (ev x)=some y
 |[],_,_,x,hx=>by simp at hx
 |y ::xs,az,h,x,hx=>by
  simp only[fR,sV]at h
  split at h
  ·rename_i z zs h1 h2
   simp only[cS]at hx
   rcases hx with rfl|hx
   ·exact⟨_,h1⟩
   ·exact Za0 h2 x hx
  ·cases h
theorem Z8m{ev:Operand->D}{r:Nat}:∀{xs:List Operand} {x:Operand},x∈xs->r∈FL (ev x)->r∈lN [] (xs.map ev)
 |y::xs,x,hx,hr=>by
  simp only[fR,lN,bX]
  simp only[cS]at hx
  rcases hx with rfl|hx
  ·exact .inl hr
  ·exact .inr (Z8m hx hr)
theorem Zr{r:Nat}:∀{l ids:List Nat},r∈lJ ids l->r∈ids\/r∈l
 |[],ids,h=>.inl h
 |x ::l,ids,h=>by
  simp only[lJ]at h
  split at h
  ·rcases Zr h with h|h
   ·exact .inl h
   ·exact .inr (by simp[h])
  ·rcases Zr h with h|h
   ·simp only[bX,List.mem_singleton]at h
    rcases h with h|h
    ·exact .inl h
    ·exact .inr (by simp[h])
   ·exact .inr (by simp[h])
theorem zv{c:Ctx}{w:World}{d:D}{v:Value}(h:Rep c w d v):Rep {c with base:=0} w d v:=by
 cases d with
 |dt ds=>obtain⟨vs,hv,hx⟩:=h;exact⟨vs,hv,Y2 hx⟩
 |dead=>trivial
 |_=>exact Rep.KE (Z8x (Rep.toV (λds e=>by cases e) (λe=>by cases e) h))
theorem qR{P:Program}{G:List bc}{M:Nat}(hG:jT P G){dst:Option Tmp}{f:FuncId}{args:Array Operand}{dc:Array TypeId}{type:TypeId}{pos':String}{after:Array Edge}{guard:Option (Nat×Bool)}{ev:Operand->D}{R:Rows}{K:List Nat->D->Rows->Prop}
 (lR:o8 G f=none) (h:CN G M f (args.toList.map ev) R K):∃ks val R' x,K ks val R'/\oO G f=some x/\(∀j,bw j ks=true->M<=j)/\BS P ⟨dst,.call ⟨.value (.func f),args,dc⟩,type,pos',after,guard⟩ ev R ks val R':=by
 unfold CN at h
 split at h
 ·rename_i x hx
  have wu:x.gone=none:=by simpa[o8,hx]using lR
  obtain⟨dw,hf⟩:=Gg hG hx
  split at h
  ·rename_i az dz has iT
   simp only[da,aE]at h
   obtain⟨⟨⟨nt,wX⟩,h3,uL,h4⟩,h⟩:=h
   have JaA:∀r,r∈lJ [] (lN [] (args.toList.map ev))->r∈lN [] (args.toList.map ev):=λr hr=>by
    rcases Zr hr with h|h
    ·cases h
    ·exact h
   generalize JJ:lJ [] (lN [] (args.toList.map ev))=ids at*
   have kZ:=Mt.1 h3
   have uL:=Ms.1 uL
   have main :∀res aj,Hu R [] ids res aj K->j9 P x.f az [] res aj->
    ∃ks val R' y,K ks val R'/\oO G f=some y/\(∀j,bw j ks=true->M<=j)/\BS P ⟨dst,.call ⟨.value (.func f),args,dc⟩,type,pos',after,guard⟩ ev R ks val R':=by
    intro res aj hK hA
    simp only[Hu,da,D.cq,nn]at hK
    obtain⟨_,hK⟩:=hK
    refine⟨_,_,_,x,hK,hx,λj hj=>lE (List.all_eq_true.1 h4 j (oj.1 hj)),λc w a hm hb hR eu K' Q re=>?_⟩
    have o7:mJ (c.only ids) R:=λr row ak g1 g2=>by
     have:=(Mv g1).2.1
     rw[hR,g2]at this;exact(Option.some.inj this).symm
    have hmo:=yQ hm ids
    have hn:=UD (c:=c.only ids) (R:=R) (ids:=[]) (dz:=[]) (len:=true) (w:=w) (λr row e=>by cases e) rfl
    have Zs:∀y∈args.toList,Rep (c.only ids) w (ev y) (a.eval y):=λy hy=>by
     obtain⟨z,hz⟩:=Za0 has y hy
     exact vQ hz (λr hr=>uL r (Z8m hy hr)) (eu y (by simp[Op.operands,Call.operands];exact .inr (by simpa using hy)))
    rw[Zt (λr=>r) (λr=>pos r [] 0)]at has
    have gb:=Mu (len:=true) (ρ:=a.eval) hmo o7 hn has (λ_=>rfl) (λr _ e=>by cases e) (λr e=>by rw[Zu]at e;cases e) Zs
    have mq:=hA _ w _ (Y7 (R:=R) (len:=true) hmo (λr row e=>by cases e) (by simp) (λr e=>by simp[CO]at e) rfl) rfl (λr=>rfl) gb
    refine Y9 dw hf (dw.real wu) (mq.mono λe w' sU=>?_)
    obtain⟨v,c',he,nF,jV,kQ⟩:=sU
    have Gw:∀r x,((c.only ids).pass w [] [] true).R r=some x->False:=λr x h=>by simp[Ctx.pass]at h
    obtain⟨gn,AW⟩:=FJ iT
    have hxK:jF (bK 0 (dz.length-0)) {c.pass w ids dz false with base:=0} w {c' with base:=0} w':=by
     refine⟨Zh2 nF.mem,⟨rfl,nF.bz.top,λb iI=>?_,λr x hr=>?_⟩,nF.fr.mono λb _ ⟨r,x,h1,_⟩=>(Gw r x h1).elim,λb iI=>?_,λr x hr hv=>?_⟩
     ·have:c.I b:=by
       rcases iI with h|⟨h,_⟩
       ·exact h
       ·cases h
      exact⟨(nF.bz.I b (.inl this)).1,(nF.bz.I b (.inl this)).2⟩
     ·obtain⟨h1,row,h2,_⟩:=oh hr
      have Ml:dz[r]?=some row:=h2
      have:=(List.getElem?_eq_some_iff.1 Ml).1
      rw[Mr.2 (by omega)]at h1;cases h1
     ·rcases nF.fu b iI with h|h
      ·rcases h with h|⟨_,r,row,g1,g2,g3,_,g5⟩
       ·exact .inl (.inl h)
       ·obtain⟨k1,k2,k3⟩:=Mv g1
        have hp:=Bw k1
        obtain⟨jy,q1,q2⟩:=AW _ r hp
        have hl:=(List.getElem?_eq_some_iff.1 q2).1
        exact .inr (.inl ⟨_,_,Mr.2 (by omega),q2,by simpa[Ctx.pass,Ctx.only,hp]using g2,by simpa[Ctx.pass,Ctx.only,hp]using g5⟩)
      ·exact .inr (.inr h)
     ·rcases nF.og r x hr hv with⟨⟨y,h1⟩,_⟩|h
      ·exact(Gw r y h1).elim
      ·exact .inr (.inr h)
    have:=Z9k (k:=0) (c':={c' with base:=0}) hm hR kZ iT (by simp) hxK jV rfl
    simp only[List.take_zero,List.drop_zero]at this
    exact⟨v,he,re v w' _ this.2 (λr=>rfl) (Y8 this.1 (flat:=False) (.inl λb hb=>hb) (λ_=>trivial) (λe=>e.elim) (zv kQ))⟩
   split at h
   ·rename_i α v res aj hm
    exact main _ _ (h v rfl) (dw.abs wu _ _ _ _ _ _ hm).1
   ·rename_i p α v res aj hm
    exact main _ _ (h.2 v rfl) (dw.lO wu _ _ _ _ _ _ _ hm h.1).1
   ·exact h.elim
  ·exact h.elim
 ·exact h.elim
