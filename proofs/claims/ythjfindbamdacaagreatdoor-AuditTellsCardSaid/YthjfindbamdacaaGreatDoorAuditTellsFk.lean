import Derived.Test.YthjfindbamdacaaGreatDoorAuditTellsFo
import Derived.Laws.Append
import Derived.Laws.CopyRow
import Derived.Laws.AppendOwn
open List renaming eq_nil_of_length_eq_zero->fQ,map_cons->fS,append_assoc->fF,getElem?_take->aU,getElem?_drop->fU,getElem?_toArray->aY,getD->aK,length_take->bD,length_drop->bF,getElem?_append_left->aZ,size_toArray->bA,getElem?_append_right->bB,getElem?_eq_none->aM,take_of_length_le->fL,getElem?_eq_getElem->cG,range'->bK,mem_of_getElem?->fX,mem_of_mem_take->cV,mem_of_mem_drop->cW,mem_cons->cR,mem_append->bX
open Bool renaming false_eq_true->aN
open Option renaming map_eq_some_iff->fR
open Nat renaming add_zero->bG,succ_mul->aW,mul_le_mul_right->aV,zero_add->aX,mul_comm->fV,le_refl->aO,add_mul->bC,le_trans->bH,le_mul_of_pos_right->fW
open Array renaming ext'->fT
set_option linter.all false
namespace Go.GD
open Go
section
variable {c:Ctx} {w:World} {ks:List Nat}
theorem wF(ks:List Nat)(row:Row):(row.kill ks).box=row.box/\(row.kill ks).ty=row.ty/\(row.kill ks).sz=row.sz/\(row.kill ks).es.l.length=row.es.l.length:=by
 unfold Row.kill;split<;>exact⟨rfl,rfl,rfl,rfl⟩
theorem Qyj:∀{e:List D},(D.kD ks e).length=e.length
 |[]=>rfl
 |d::l=>by simp[D.kD,Qyj (e:=l)]
theorem Z9k{d:D}{v:Value}(gl:∀f cs,d≠.gj f cs)(h:cz c w d v):cz (c.kill ks) w (d.eh ks) v:=by
 have key:∀r row,cf r ks=false->c.R r=some row->(c.kill ks).R r=some (row.kill ks):=λr row hr cr=>by simp[Ctx.kill,hr,cr]
 have h1:=cz.one h
 cases d with
 |all r=>
  simp only[D.eh]
  cases hr:cf r ks with
  |true=>exact h1
  |false=>
   obtain⟨row,g1,g2,g3⟩:=h
   obtain⟨s1,s2,s3,s4⟩:=wF ks row
   exact⟨_,key r row hr g1,s1.trans g2,by rw[s2,s3,s4];exact g3⟩
 |own r o n=>
  simp only[D.eh]
  cases hr:cf r ks with
  |true=>exact h1
  |false=>
   obtain⟨row,g1,g2,g3,g4⟩:=h
   obtain⟨s1,s2,s3,s4⟩:=wF ks row
   exact⟨_,key r row hr g1,s1.trans g2,by rw[s4];exact g3,by rw[s2,s3];exact g4⟩
 |ptr r i off=>
  simp only[D.eh]
  cases hr:cf r ks with
  |true=>exact h1
  |false=>
   obtain⟨row,g1,g2,g3,g4⟩:=h
   obtain⟨s1,s2,s3,s4⟩:=wF ks row
   exact⟨_,key r row hr g1,g2,by rw[s4];exact g3,by rw[s3];exact g4⟩
 |pa r i off len k n=>
  simp only[D.eh]
  cases hr:cf r ks with
  |true=>exact h1
  |false=>
   obtain⟨g0,row,g1,g2,g3,g4⟩:=h
   obtain⟨s1,s2,s3,s4⟩:=wF ks row
   exact⟨g0,_,key r row hr g1,g2,by rw[s4];exact g3,by rw[s3];exact g4⟩
 |c8 r=>
  simp only[D.eh]
  cases hr:cf r ks with
  |true=>exact h1
  |false=>
   rcases h with h|⟨row,g1,g2,g3,g4⟩
   ·exact .inl h
   ·obtain⟨s1,s2,s3,s4⟩:=wF ks row
    exact .inr ⟨_,key r row hr g1,g2,by rw[s4];exact g3,by rw[s3];exact g4⟩
 |gj f cs=>exact absurd rfl (gl f cs)
 |_=>exact h
theorem xr{d:D}(gl:∀f cs,d≠.gj f cs)(h:∀r∈nP d,cf r ks=false):d.eh ks=d:=by
 cases d<;>first|rfl|(simp only[D.eh];rw[h _ (by simp[nP])])|exact absurd rfl (gl _ _)
theorem SK{d:D}{v:Value}(h:cz c w d v):cz (c.kill ks) w (d.eh ks) v:=by
 by_cases e:∃g cs,d=.gj g cs
 ·obtain⟨g,cs,rfl⟩:=e
  have h1:=cz.one h
  simp only[D.eh]
  cases hd:nQ (oE cs) ks with
  |false=>exact h1
  |true=>
   obtain⟨us,hv,hu⟩:=h
   exact⟨us,hv,YM (c:=c) (w:=w) (c':=c.kill ks) (w':=w) (S:=λr=>cf r ks=false) (λd v q1 q2 q3=>by have:=Z9k (ks:=ks) q1 q3;rwa [xr q1 q2]at this) (λ_ hb=>⟨hb,rfl⟩) (λr hr=>by
    have:=Uv.1 hd r hr
    cases hm:cf r ks with
    |false=>rfl
    |true=>exact(this (ot.1 hm)).elim) hu⟩
 ·exact Z9k (λf cs e'=>e ⟨f,cs,e'⟩) h
theorem Ziq:∀{ds:List D} {vs:List Value},jt c w ds vs->jt (c.kill ks) w (D.kD ks ds) vs
 |[],[],_=>trivial
 |_::_,_::_,h=>⟨SK h.1,Ziq h.2⟩
 |[],_::_,h=>h.elim
 |_::_,[],h=>h.elim
theorem Zmh{d:D}{v:Value}(h:VRep c w d v):VRep (c.kill ks) w (d.kill ks) v:=by
 cases d with
 |agg cs=>obtain⟨vs,hv,hr⟩:=h;exact⟨vs,hv,Ziq hr⟩
 |_=>
  have:=SK (ks:=ks) (VRep.toC (λcs e=>by cases e) h)
  exact VRep.EW this
theorem Zf3:∀{ds:List D} {vs:List Value},kr c w ds vs->kr (c.kill ks) w (D.pS ks ds) vs
 |[],[],_=>trivial
 |_::_,_::_,h=>⟨Zmh h.1,Zf3 h.2⟩
 |[],_::_,h=>h.elim
 |_::_,[],h=>h.elim
theorem Ws{d:D}{v:Value}(h:Rep c w d v):Rep (c.kill ks) w (d.gk ks) v:=by
 cases d with
 |dt ds=>obtain⟨vs,hv,hr⟩:=h;exact⟨vs,hv,Zf3 hr⟩
 |dead=>trivial
 |_=>
  have:=Zmh (ks:=ks) (Rep.toV (λds e=>by cases e) (λe=>by cases e) h)
  exact Rep.KF this
theorem Z9s:∀{ds:List D} {arr:Array Value} {off:Nat},kU c w ds arr off->kU (c.kill ks) w (D.kD ks ds) arr off
 |[],_,_,_=>trivial
 |_::_,_,_,⟨⟨v,hv,h1⟩,h2⟩=>⟨⟨v,hv,SK h1⟩,Z9s h2⟩
theorem Znr{r:Nat}{row:Row}(h:EZ c w r row):EZ (c.kill ks) w r (row.kill ks):=by
 obtain⟨s1,s2,s3,s4⟩:=wF ks row
 rcases h with⟨h0,h1,h2,h3⟩|⟨h0,arr,ha,hs,hx⟩
 ·refine .inl ⟨h0,s1.trans h1,?_,by rw[s3];exact h3⟩
  rw[h2]at s4;exact fQ s4
 ·refine .inr ⟨h0,arr,by rw[s2];exact ha,by rw[s3];exact hs,?_⟩
  rw[s1,s3]
  split
  ·rename_i hb
   simp only[hb,if_true]at hx
   obtain⟨e,k1,k2,k3,k4⟩:=hx
   obtain⟨box,ty,sz,es⟩:=row
   simp only at hb k1 k2 k3 k4
   subst hb;subst k1
   exact⟨D.kD ks e,rfl,by rw[Qyj];exact k2,k3,Z9s k4⟩
  ·rename_i hb
   simp only[hb,aN,if_false]at hx
   have he:(row.kill ks).es=row.es:=by
    unfold Row.kill
    split
    ·simp at hb
    ·rfl
   rw[he];exact hx
theorem om{r:Nat}{x:Row}(h:(c.kill ks).R r=some x):cf r ks=false/\∃row,c.R r=some row/\x=row.kill ks:=by
 simp only[Ctx.kill]at h
 cases hb:cf r ks with
 |true=>rw[hb]at h;simp at h
 |false=>
  rw[hb]at h
  simp only[aN,if_false,fR]at h
  obtain⟨row,h1,h2⟩:=h
  exact⟨rfl,row,h1,h2.symm⟩
theorem YN(hm:Mem c w):Mem (c.kill ks) w:=by
 refine⟨λr x hx=>?_,λr s x y hx hy v1 v2 he=>?_,λb hb=>⟨(hm.fk b hb).1,λr x hx v=>?_⟩,hm.top,hm.kX⟩
 ·obtain⟨_,row,h1,rfl⟩:=om hx
  exact Znr (hm.row r row h1)
 ·obtain⟨_,row,h1,_⟩:=om hx
  obtain⟨_,aq,h2,_⟩:=om hy
  exact hm.inj r s row aq h1 h2 v1 v2 he
 ·obtain⟨_,row,h1,_⟩:=om hx
  exact(hm.fk b hb).2 r row h1 v
end
theorem Zmz:∀{l:List Nat},nQ l []=true
 |[]=>rfl
 |x::l=>by simp only[nQ,cf];exact Zmz
theorem Wq(d:D):d.eh []=d:=by
 cases d with
 |gj f cs=>simp only[D.eh,Zmz]
 |_=>rfl
theorem Wp:∀{ds:List D},D.kD [] ds=ds
 |[]=>rfl
 |d::l=>by simp only[D.kD,Wq,Wp (ds:=l)]
theorem Z3r(row:Row):row.kill []=row:=by
 unfold Row.kill;split
 ·simp[Wp]
 ·rfl
theorem vM(c:Ctx):c.kill []=c:=by
 obtain⟨ρ,R,V,I,base,top,X⟩:=c
 simp only[Ctx.kill,cf,aN,if_false]
 congr 1
 funext r
 cases R r<;>simp[Z3r]
theorem lU.toK{c c':Ctx}{w w':World}(h:lU c w c' w'):jM [] c w c' w':=
 ⟨h.mem,by rw[vM];exact h.cj,h.fr,λb hb=>(h.fk b hb).imp id .inr,λr aq h1 h2=>(h.oj r aq h1 h2).imp id .inr⟩
theorem P0{ks:List Nat}:∀{R:Rows} {i r:Nat},(se ks R i).getD r none=if cf (i+r) ks=true then none else(R.getD r none).map (Row.kill ks)
 |[],i,r=>by simp[se]
 |x::l,i,0=>by
  simp only[se,bG]
  cases cf i ks<;>cases x<;>simp
 |x::l,i,r+1=>by
  have:=P0 (ks:=ks) (R:=l) (i:=i+1) (r:=r)
  rw[show i+1+r=i+(r+1) by omega]at this
  simpa[se]using this
theorem JD{ks:List Nat}:∀{R:Rows} {i:Nat},(se ks R i).length=R.length
 |[],_=>rfl
 |x::l,i=>by simp[se,JD (R:=l)]
def sr(ks:List Nat)(env:List (Nat×D)):List (Nat×D):=env.map λx=>(x.1,x.2.gk ks)
theorem Iv{ks:List Nat}:∀{env:List (Nat×D)} {K:List (Nat×D)->Prop},Gq ks env K↔K (sr ks env)
 |[],_=>Iff.rfl
 |(t,d)::l,K=>by
  simp only[Gq,D.cv]
  rw[Iv (env:=l) (K:=λl=>K ((t,d.gk ks)::l))]
  rfl
theorem Ca{ks:List Nat}:∀{env:List (Nat×D)} {t:Nat},look (sr ks env) t=(look env t).gk ks
 |[],_=>rfl
 |(u,d)::l,t=>by
  simp only[sr,fS,look]
  cases Nat.beq u t with
  |true=>rfl
  |false=>exact Ca (env:=l)
theorem Qnl{P:Program}(w:World){t tx ty e:TypeId}{i:TypeInfo}{ux:TypeDesc}(ht:P.underlying t=some (.slice e))(pH:P.underlying tx=some ux)(hx:∀k,ux≠.int k)(hi:P.info? e=some i)
 {a:Option Addr} {n cap m:Nat} {x:Value} {news:List Value} (hl:(Builtin.lenOf x).run P w=.ok m w) (hf:(Builtin.firstCells i.size m x).run P w=.ok news.toArray w) (kZ:n+m<=cap) {w':World}
 (j0:∀b,a=some b->(storeCells (b.add (n*i.size)) news).run P w=.ok () w') (oQ:a=none->w'=w):
 (Builtin.append_ #[t,tx] ty #[.slice a n cap,x]).run P w=.ok (.slice a (n+m) cap) w':=by
 have hz:(match ux with|.int _=>true|_=>false)=false:=by
  cases ux<;>first|rfl|exact absurd rfl (hx _)
 cases a with
 |none=>
  have:=oQ rfl
  subst this
  simp[Builtin.append_,run_underlying ht,run_underlying pH,hz,sizeOf,typeInfo,hi,hl,kZ,hf]
 |some b=>simp[Builtin.append_,run_underlying ht,run_underlying pH,hz,sizeOf,typeInfo,hi,hl,kZ,hf,j0 b rfl]
theorem Qn4{P:Program}(w:World){t tx ty e:TypeId}{i:TypeInfo}{z:Value}{ux:TypeDesc}(ht:P.underlying t=some (.slice e))(pH:P.underlying tx=some ux)(hx:∀k,ux≠.int k)(hi:P.info? e=some i)(hz:i.zero=some z)
 {a:Option Addr} {n cap m:Nat} {x:Value} {lj news:List Value} (hl:(Builtin.lenOf x).run P w=.ok m w) (hf:(Builtin.firstCells i.size m x).run P w.drew=.ok news.toArray w.drew) (hfo:(Builtin.firstCells i.size n (.slice a n cap)).run P w.drew=.ok lj.toArray w.drew)
 (hg:cap<n+m) (h63:((n+m:Nat):Int)<=9223372036854775807) (rl:Builtin.nextslicecap (n+m) cap*i.bytes<=281474976710656):
 (Builtin.append_ #[t,tx] ty #[.slice a n cap,x]).run P w=.ok (.slice (some ⟨w.heap.size,0,none⟩) (n+m) (grownCap w (n+m) cap e))
  (w.drew.alloc (.cells (lj.toArray++news.toArray++Builtin.zeroCells z.cells (grownCap w (n+m) cap e-(n+m))) e)):=by
 have hn:¬(n+m<=cap):=by omega
 have IT:¬(9223372036854775807<((n:Int)+(m:Int))):=by omega
 have YO:¬(281474976710656<Builtin.nextslicecap (n+m) cap*i.bytes):=by omega
 simp[Builtin.append_,run_underlying ht,run_underlying pH,sizeOf,typeInfo,zeroValue,hi,hz,hl,hn,IT,YO,Question.forced,hf,hfo,newRow,grownCap]
 congr 2
 apply fT
 simp[fF]
theorem zr{w:World}{b o:Nat}{arr:Array Value}{ty:TypeId}{fz:Nat×Nat}(h:w.heap[b]?=some (.cells arr ty fz))(j:Nat):w.cell? ((⟨b,o,none⟩:Addr).add j)=arr[o+j]? :=by
 rw[FL]
 unfold World.cell?
 simp[h]
theorem Zfc{I:ag}{w:World}{es:List (List D)}{arr:Array Value}{off sz:Nat}(h:iN I w es arr off sz)(h0:0<sz):∃news:List Value,news.length=es.length*sz/\(∀j u,news[j]?=some u->arr[off+j]?=some u)/\iN I w es news.toArray 0 sz:=by
 have fv:es.length*sz<=arr.size-off:=by
  by_cases he:es.length=0
  ·rw[he];omega
  ·obtain⟨h1,h2⟩:=wA.1 h (es.length-1) (by omega)
   obtain⟨v,hv,_⟩:=ud.1 h2 (sz-1) (by omega)
   have cq:=(Array.getElem?_eq_some_iff.1 hv).1
   have:es.length*sz=(es.length-1)*sz+sz:=by
    rw[show es.length*sz=(es.length-1+1)*sz by congr 1;omega,aW]
   omega
 refine⟨(arr.toList.drop off).take (es.length*sz),by simp;omega,λj u hj=>?_,?_⟩
 ·rw[aU]at hj
  split at hj
  ·rw[fU]at hj
   simpa using hj
  ·cases hj
 ·rw[wA]at h⊢
  intro i hi
  obtain⟨h1,h2⟩:=h i hi
  refine⟨h1,?_⟩
  rw[ud]at h2⊢
  intro j hj
  obtain⟨v,hv,hp⟩:=h2 j hj
  refine⟨v,?_,hp⟩
  have cq:i*sz+j<es.length*sz:=by
   have:=aV sz (show i+1<=es.length by omega)
   rw[aW]at this
   omega
  simp only[aX,aY]
  rw[aU,if_pos cq,fU,<-hv]
  simp[Nat.add_assoc]
theorem iN.one{I:ag}{w:World}{es:List (List D)}{news:List Value}{sz:Nat}(h:iN I w es news.toArray 0 sz)(hl:news.length=es.length*sz):∀u∈news,u.oneCell'=true:=by
 intro u hu
 obtain⟨j,hj⟩:=List.getElem?_of_mem hu
 have cq:=(List.getElem?_eq_some_iff.1 hj).1
 have h0:0<sz:=by
  rcases Nat.eq_zero_or_pos sz with h0|h0
  ·subst h0;simp at hl;rw[hl]at cq;simp at cq
  ·exact h0
 have hi:j/sz<es.length:=by rw[Nat.div_lt_iff_lt_mul h0];omega
 obtain⟨h1,h2⟩:=wA.1 h (j/sz) hi
 obtain⟨v,hv,hp⟩:=ud.1 h2 (j%sz) (by rw[h1];exact Nat.mod_lt _ h0)
 have e:0+j/sz*sz+j%sz=j:=by rw[aX,fV];exact Nat.div_add_mod j sz
 rw[e,aY,hj]at hv
 cases hv
 exact fw.one hp
theorem Zkh{I:ag}{w:World}(s:List UInt8):iN I w (ai.ints .u8 (iX s)).l (s.map λb=>Value.int .u8 b.toNat).toArray 0 1:=by
 rw[wA]
 intro i hi
 have iJ:i<s.length:=by simpa[iX,ai.l]using hi
 have he:(ai.ints .u8 (iX s)).l.getD i []=[.int .u8 s[i].toNat]:=by simp[iX,ai.l,aK,iJ]
 rw[he]
 refine⟨rfl,?_⟩
 simp only[BU,Aw,sB,rV,sC,sD,Q4,sE,tG,ug,uh,ui,uj,uk,um,uo,uq,ur,and_true]
 exact⟨_,by simp[iJ],rfl⟩
def Src(P:Program)(c:Ctx)(w:World)(v:Value)(ys:List (List D))(sz:Nat):Prop:=
 ∃news:List Value,news.length=ys.length*sz/\(Builtin.lenOf v).run P w=.ok ys.length w/\(∀k,k<=ys.length->∀w',w'.heap=w.heap->(Builtin.firstCells sz k v).run P w'=.ok (news.take (k*sz)).toArray w')/\iN c.I w ys news.toArray 0 sz
theorem JE{P:Program}{c:Ctx}{w:World}{sz sy:Nat}(h0:0<sz){es:List (List D)}{a:Option Addr}{cap:Nat}(gx:es=[]\/sy=sz/\∃b off arr ty fz,a=some ⟨b,off,none⟩/\w.heap[b]?=some (.cells arr ty fz)/\iN c.I w es arr off sy):
 Src P c w (.slice a es.length cap) es sz:=by
 rcases gx with gx|⟨hss,b,off,arr,ty,fz,ha,hh,hE⟩
 ·subst gx
  refine⟨[],by simp,by simp[Builtin.lenOf],λk hk w' _=>?_,by simp[pT,oq]⟩
  have Av:k=0:=by simpa using hk
  subst Av
  cases a with
  |none=>simp[Builtin.firstCells]
  |some a=>
   have:=run_firstCells_some (P:=P) w' sz 0 a 0 cap [] (by simp) (λj v h=>by simp at h)
   simpa using this
 ·subst hss
  obtain⟨news,g1,g2,g3⟩:=Zfc hE h0
  refine⟨news,g1,by simp[Builtin.lenOf],λk hk w' YP=>?_,g3⟩
  subst ha
  refine run_firstCells_some (P:=P) w' sy k ⟨b,off,none⟩ _ cap (news.take (k*sy)) ?_ λj u hj=>?_
  ·have:=aV sy hk
   simp;omega
  ·rw[zr (by rw[YP];exact hh)]
   rw[aU]at hj
   split at hj
   ·exact g2 j u hj
   ·cases hj
theorem xX{P:Program}{c:Ctx}{w:World}{R:Rows}{y:D}{v:Value}{sy sz:Nat}{ys:ai}(h0:0<sz)(h:sF R y=some (sy,ys))(hs:sy=sz\/ys.l=[])(hm:Mem c w)(hA:mK c R)(hr:Rep c w y v):Src P c w v ys.l sz:=by
 cases y<;>simp only[sF]at h<;>try(cases h;done)
 case du=>cases h;rw[show v=_ from hr];exact JE (sy:=sz) h0 (es:=[]) (.inl rfl)
 case emp=>cases h;obtain⟨a,hv,_⟩:=hr;rw[hv];exact JE (sy:=sz) h0 (es:=[]) (.inl rfl)
 case sl s es fr=>
  cases h
  obtain⟨a,cap,hv,hc,gx⟩:=hr
  rw[hv]
  refine JE (sy:=sy) h0 ?_
  rcases gx with gx|⟨b,off,arr,ty,fz,ha,hI,hf,hh,hE⟩
  ·exact .inl gx
  ·rcases hs with hs|hs
   ·exact .inr ⟨hs,b,off,arr,ty,fz,ha,hh,hE⟩
   ·exact .inl hs
 case all r=>
  split at h
  ·rename_i ty s es hR
   cases h
   obtain⟨row,g1,g2,hv⟩:=hr
   have:=hA r row _ g1 hR
   subst this
   rcases hv with⟨hV,a,hv,_⟩|⟨hV,cap,arr,hv,g3,g4,g5,g6⟩
   ·have he:=(hm.oi g1 hV).2.1
    simp only at he
    rw[hv,he]
    exact JE (sy:=sz) h0 (es:=[]) (.inl rfl)
   ·obtain⟨iS,jJ,jn,hx⟩:=hm.real g1 hV
    simp only at g5 jJ hx hv
    rw[g5]at jJ;cases jJ
    simp only[aN,if_false]at hx
    rw[hv]
    refine JE (sy:=sy) h0 ?_
    rcases hs with hs|hs
    ·exact .inr ⟨hs,_,0,arr,_,_,rfl,g5,hx⟩
    ·exact .inl hs
  ·cases h
 case own r o n=>
  split at h
  ·rename_i ty s es hR
   cases h
   obtain⟨row,g1,g2,g5,hv⟩:=hr
   have:=hA r row _ g1 hR
   subst this
   simp only at g5
   have hlen:((es.l.drop o).take n).length=n:=by simp only[bD,bF];omega
   rw[ai.jf,ai.kv]at hs⊢
   rcases hv with⟨g7,a,hv,_⟩|⟨hV,cap,arr,g3,g4,g6,hv,g7⟩
   ·subst g7
    rw[hv]
    have:=JE (P:=P) (c:=c) (w:=w) (sy:=sz) h0 (es:=(es.l.drop o).take 0) (a:=a) (cap:=0) (.inl (by simp))
    simpa using this
   ·obtain⟨iS,jJ,jn,hx⟩:=hm.real g1 hV
    simp only at g6 jJ hx hv
    rw[g6]at jJ;cases jJ
    simp only[aN,if_false]at hx
    have hE:=Mx (n:=n) (KB (l:=o) hx)
    have:=JE (P:=P) (c:=c) (w:=w) (sy:=sy) h0 (es:=(es.l.drop o).take n) (a:=some ⟨c.ρ r,o*sy,none⟩) (cap:=cap) (by
     rcases hs with hs|hs
     ·exact .inr ⟨hs,_,o*sy,arr,_,_,rfl,g6,by simpa using hE⟩
     ·exact .inl hs)
    rw[hlen]at this
    rw[hv];exact this
  ·cases h
theorem yX{P:Program}{c:Ctx}{w:World}{R:Rows}{ke kx:TK}{y:D}{v:Value}{sy sz:Nat}{ys:ai}(h0:0<sz)(h:CV R ke kx y=some (sy,ys))(hs:sy=sz\/ys.l=[])(hm:Mem c w)(hA:mK c R)(hr:Rep c w y v):Src P c w v ys.l sz:=by
 unfold CV at h
 split at h
 ·exact xX h0 h hs hm hA hr
 ·split at h
  ·rename_i s
   cases h
   have hv:=Rep.str.1 hr
   subst hv
   have fv:(ByteArray.mk s.toArray).size=s.length:=by simp[ByteArray.size]
   have ext:∀k,((ByteArray.mk s.toArray).extract 0 k).data.toList=s.take k:=λk=>by
    simp[ByteArray.data_extract]
   have hf:∀k w',(Builtin.firstCells sz k (.string ⟨s.toArray⟩)).run P w'=.ok ((s.map λb=>Value.int .u8 b.toNat).take k).toArray w':=λk w'=>by
    simp only[Builtin.firstCells,Sem.run_pure]
    congr 1
    apply fT
    simp only[Array.toList_map,ext,List.map_take]
   rcases hs with hs|hs
   ·subst hs
    exact⟨s.map λb=>Value.int .u8 b.toNat,by simp[iX,ai.len],by simp[Builtin.lenOf,iX,ai.len,fv],λk hk w' _=>by rw[hf];simp,Zkh s⟩
   ·have:s=[]:=by simpa[iX,ai.l]using hs
    subst this
    exact⟨[],by simp[iX,ai.len],by simp[Builtin.lenOf,iX,ai.len,fv],λk hk w' _=>by rw[hf];simp,by simp[iX,ai.l,pT,oq]⟩
  ·cases h
 ·cases h
def Ctx.jB(c:Ctx)(k:Nat)(row:Row):Ctx:={c with R:=λr=>if r=k then some row else c.R r,V:=λr=>r=k\/c.V r}
theorem SM{c:Ctx}{w:World}{k:Nat}(hk:c.R k=none)(row:Row):jq c w (c.jB k row) w:=by
 refine⟨rfl,aO _,λb hb=>⟨hb,rfl⟩,λr x hr=>?_⟩
 have gl:r≠k:=λe=>by rw[e,hk]at hr;cases hr
 exact⟨x,by simp[Ctx.jB,gl,hr],rfl,rfl,rfl,rfl,rfl,by simp[Ctx.jB,gl],λ_ arr ha=>⟨arr,ha,rfl⟩⟩
theorem Wv{c:Ctx}{w:World}(hm:Mem c w){k:Nat}(hk:c.R k=none){row:Row}(hb:row.box=false)(he:row.es.l=[])(h0:0<row.sz):Mem (c.jB k row) w:=by
 have hg:=SM (w:=w) hk row
 have inv:∀r x,(c.jB k row).R r=some x->¬(c.jB k row).V r->c.R r=some x/\¬c.V r:=λr x hr hv=>by
  have h1:¬r=k:=λe=>hv (.inl e)
  exact⟨by simpa[Ctx.jB,h1]using hr,λe=>hv (.inr e)⟩
 refine⟨λr x hr=>?_,λr s x y hr hs v1 v2 h=>?_,λb iL=>⟨(hm.fk b iL).1,λr x hr v=>?_⟩,hm.top,hm.kX⟩
 ·by_cases e:r=k
  ·subst e
   simp only[Ctx.jB,if_true,Option.some.injEq]at hr
   subst hr
   exact .inl ⟨.inl rfl,hb,he,h0⟩
  ·have nB:c.R r=some x:=by simpa[Ctx.jB,e]using hr
   exact ue hg rfl (by simp[Ctx.jB,e]) (λ_=>rfl) (hm.row r x nB)
 ·obtain⟨h1,h2⟩:=inv r x hr v1
  obtain⟨h3,h4⟩:=inv s y hs v2
  exact hm.inj r s x y h1 h3 h2 h4 h
 ·obtain⟨h1,h2⟩:=inv r x hr v
  exact(hm.fk b iL).2 r x h1 h2
theorem Nk(c:Ctx)(w:World):jq c w c w.drew:=⟨rfl,aO _,λb hb=>⟨hb,rfl⟩,λr row hr=>⟨row,hr,rfl,rfl,rfl,rfl,rfl,Iff.rfl,λ_ arr ha=>⟨arr,ha,rfl⟩⟩⟩
theorem Kz{c:Ctx}{w:World}(h:Mem c w):Mem c w.drew:=
 ⟨λr row hr=>ue (Nk c w) rfl Iff.rfl (λ_=>rfl) (h.row r row hr),h.inj,h.fk,h.top,h.kX⟩
theorem YQ{I:ag}{w:World}{es ys:List (List D)}{A B C:List Value}{sz:Nat}(h1:iN I w es A.toArray 0 sz)(hA:A.length=es.length*sz)(h2:iN I w ys B.toArray 0 sz)(hB:B.length=ys.length*sz):iN I w (es++ys) (A++B++C).toArray 0 sz:=by
 rw[wA]at h1 h2⊢
 intro i hi
 by_cases cq:i<es.length
 ·have he:(es++ys).getD i []=es.getD i []:=by simp[aK,aZ cq]
  rw[he]
  obtain⟨g1,g2⟩:=h1 i cq
  refine⟨g1,?_⟩
  rw[ud]at g2⊢
  intro j hj
  obtain⟨v,hv,hp⟩:=g2 j hj
  refine⟨v,?_,hp⟩
  have hl:=(Array.getElem?_eq_some_iff.1 hv).1
  simp only[aY,bA]at hv hl⊢
  rw[fF,aZ hl];exact hv
 ·have iJ:i-es.length<ys.length:=by simp at hi;omega
  have he:(es++ys).getD i []=ys.getD (i-es.length) []:=by simp[aK,bB (show es.length<=i by omega)]
  rw[he]
  obtain⟨g1,g2⟩:=h2 _ iJ
  refine⟨g1,?_⟩
  rw[ud]at g2⊢
  intro j hj
  obtain⟨v,hv,hp⟩:=g2 j hj
  refine⟨v,?_,hp⟩
  have hl:=(Array.getElem?_eq_some_iff.1 hv).1
  simp only[aY,bA]at hv hl⊢
  have e:0+i*sz+j=A.length+(0+(i-es.length)*sz+j):=by
   rw[hA,show i*sz=(es.length+(i-es.length))*sz by congr 1;omega,bC];omega
  rw[e,fF,bB (by omega),aZ (by omega)]
  rw[show A.length+(0+(i-es.length)*sz+j)-A.length=0+(i-es.length)*sz+j by omega]
  exact hv
theorem qN{c:Ctx}{w:World}(hm:Mem c w){r k:Nat}{row aq:Row}{cur arr:Array Value}(hr:c.R r=some row)(hV:¬c.V r)(hk:c.R k=none)(hh:w.heap[c.ρ r]?=some (.cells cur row.ty (0,0)))(Uw:aq.ty=row.ty)(h0:0<aq.sz)(hb:aq.box=false)
 (hE:∀w',(∀b,c.I b->w'.heap[b]?=w.heap[b]?)->iN c.I w' aq.es.l arr 0 aq.sz):
 jq (c.kill [r]) w ((c.kill [r]).add k aq (c.ρ r)) (w.setRow (c.ρ r) arr)/\Mem ((c.kill [r]).add k aq (c.ρ r)) (w.setRow (c.ρ r) arr):=by
 have Cj:=YN (ks:=[r]) hm
 have FM:(c.kill [r]).R k=none:=by simp[Ctx.kill,hk]
 have oQ:∀s x,(c.kill [r]).R s=some x->s≠r/\s≠k:=λs x hs=>by
  obtain⟨h1,kd,h2,_⟩:=om hs
  refine⟨λe=>?_,λe=>by rw[e,FM]at hs;cases hs⟩
  rw[e]at h1
  have:=ot (r:=r) (l:=[r])
  simp[h1]at this
 have fg:(w.setRow (c.ρ r) arr).heap[c.ρ r]?=some (.cells arr row.ty (0,0)):=setRow_heap w _ _ _ _ _ hh
 have CW:∀s x,(c.kill [r]).R s=some x->¬c.V s->(w.setRow (c.ρ r) arr).heap[c.ρ s]?=w.heap[c.ρ s]? :=λs x hs v=>setRow_other w _ _ _ λe=>by
  obtain⟨_,kd,h2,_⟩:=om hs
  exact(oQ s x hs).1 (hm.inj s r kd row h2 hr v hV e)
 have hI:∀b,c.I b->(w.setRow (c.ρ r) arr).heap[b]?=w.heap[b]? :=λb hb=>setRow_other w _ _ _ (λe=>(hm.fk b hb).2 r row hr hV e.symm)
 have hg:jq (c.kill [r]) w ((c.kill [r]).add k aq (c.ρ r)) (w.setRow (c.ρ r) arr):=by
  refine⟨rfl,aO _,λb hb=>⟨hb,hI b hb⟩,λs x hs=>?_⟩
  obtain⟨n1,n2⟩:=oQ s x hs
  exact⟨x,by simp[Ctx.add,n2,hs],rfl,rfl,rfl,rfl,by simp[Ctx.add,n2],by simp[Ctx.add,n2],λv a ha=>⟨a,(CW s x hs v).trans ha,rfl⟩⟩
 have inv:∀s x,((c.kill [r]).add k aq (c.ρ r)).R s=some x->¬((c.kill [r]).add k aq (c.ρ r)).V s->(s=k/\((c.kill [r]).add k aq (c.ρ r)).ρ s=c.ρ r)\/(s≠k/\s≠r/\((c.kill [r]).add k aq (c.ρ r)).ρ s=c.ρ s/\¬c.V s/\∃y,c.R s=some y):=λs x hs v=>by
  by_cases e:s=k
  ·exact .inl ⟨e,by simp[Ctx.add,e]⟩
  ·have jn:(c.kill [r]).R s=some x:=by simpa[Ctx.add,e]using hs
   obtain⟨_,y,hy,_⟩:=om jn
   have v':¬c.V s:=λh=>v (by simp only[Ctx.add];exact⟨e,h⟩)
   exact .inr ⟨e,(oQ s x jn).1,by simp[Ctx.add,e,Ctx.kill],v',y,hy⟩
 refine⟨hg,⟨λs x hs=>?_,λs q x y hs hq v1 v2 he=>?_,λb iL=>?_,by show c.top<=(w.setRow _ _).heap.size;simpa[World.setRow]using hm.top,hm.kX.mono hg.I⟩⟩
 ·by_cases e:s=k
  ·subst e
   simp only[Ctx.add,if_true,Option.some.injEq]at hs
   subst hs
   refine .inr ⟨by simp[Ctx.add],arr,by simp only[Ctx.add,if_true];rw[Uw];exact fg,h0,?_⟩
   rw[hb]
   simp only[aN,if_false]
   exact hE _ hI
  ·have jn:(c.kill [r]).R s=some x:=by simpa[Ctx.add,e]using hs
   exact ue hg (by simp[Ctx.add,e]) (by simp[Ctx.add,e]) (λv=>CW s x jn v) (Cj.row s x jn)
 ·rcases inv s x hs v1 with⟨e1,p1⟩|⟨e1,p1,p2,p3,y1,p4⟩<;>rcases inv q y hq v2 with⟨e2,q1⟩|⟨e2,q1,q2,q3,y2,q4⟩
  ·rw[e1,e2]
  ·rw[p1,q2]at he
   exact(q1 (hm.inj q r y2 row q4 hr q3 hV he.symm)).elim
  ·rw[p2,q1]at he
   exact(p1 (hm.inj s r y1 row p4 hr p3 hV he)).elim
  ·rw[p2,q2]at he
   exact hm.inj s q y1 y2 p4 q4 p3 q3 he
 ·refine⟨by simpa[World.setRow]using(hm.fk b iL).1,λs x hs v=>?_⟩
  rcases inv s x hs v with⟨e1,p1⟩|⟨e1,p1,p2,p3,y1,p4⟩
  ·rw[p1];exact(hm.fk b iL).2 r row hr hV
  ·rw[p2];exact(hm.fk b iL).2 s y1 p4 p3
def BX(P:Program)(o:Oper)(ev:Operand->D)(R:Rows)(ks:List Nat)(val:D)(R':Rows):Prop:=
 ∀ (c:Ctx) (w:World) (a:Act),Mem c w->c.base<=w.heap.size->(∀r,c.R r=R.getD r none)->(∀x∈o.op.operands,Rep c w (ev x) (a.eval x))->
  ∀K Q,(∀v w' c',jM ks c w c' w'->(∀r,c'.R r=R'.getD r none)->Rep c' w' val v->K (a.put o.dst v) w')->o.nk P a w K Q
theorem EY.toK{P:Program}{o:Oper}{ev:Operand->D}{R:Rows}{val:D}{R':Rows}(h:EY P o ev R val R'):BX P o ev R [] val R':=
 λc w a hm hb hR eu K Q hK=>h c w a hm hb hR eu K Q λv w' c' hn j7 hv=>hK v w' c' hn.toK j7 hv
section
variable {P:Program} {c:Ctx} {w:World} {R:Rows} {ks:List Nat} {e sz lV:Nat} {es ys:ai}
theorem Ux{row:Row}{ρ':Nat->Nat}{V':Nat->Prop}(hR:∀r,c.R r=R.getD r none):∀r,(if r=R.length then some row else(c.kill ks).R r)=(se ks R 0++[some row]).getD r none:=by
 intro r
 by_cases e:r=R.length
 ·subst e
  simp[aK,bB,JD]
 ·rw[if_neg e]
  by_cases cq:r<R.length
  ·rw[aK,aZ (by rw[JD];exact cq),<-aK,P0]
   simp[Ctx.kill,hR]
  ·rw[aK,aM (by simp[JD];omega)]
   simp[Ctx.kill,hR,aM (show R.length<=r by omega)]
theorem append_empty{t tx ty:TypeId}{i:TypeInfo}{z:Value}{ux:TypeDesc}(ht:P.underlying t=some (.slice e))(pH:P.underlying tx=some ux)(hx: ∀k,ux≠ .int k)(hi:P.info? e=some i)(hz:i.zero=some z)(fv:i.size=sz)(uS:i.bytes=lV)(FN:z.cells.size=sz)
    (hm:Mem c w) (hb:c.base<=w.heap.size) (hR: ∀r,c.R r=R.getD r none) (h0:0<sz) (pE:0<lV) (oF:lV*(0+ys.l.length)<=140737488355328) {a:Option Addr} (AJ:AI c.top a) {vy:Value} (hs:Src P c w vy ys.l sz):
    ∃v' w' c',(Builtin.append_ #[t,tx] ty #[.slice a 0 0,vy]).run P w= .ok v' w'/\jM ks c w c' w'/\(∀r,c'.R r=(se ks R 0++[some (⟨false,e,sz,ys⟩:Row)]).getD r none)/\Rep c' w' (.all R.length) v':=by
  obtain⟨news,g1,g2,g3,g4⟩:=hs
  have hk:c.R R.length=none:=by rw[hR];simp [aK]
  have FM:(c.kill ks).R R.length=none:=by simp [Ctx.kill,hk]
  have Cj:=YN (ks:=ks) hm
  subst fv
  by_cases hm0:ys.l.length=0
  . have SR:ys.l=[]:=fQ hm0
    have hn:news=[]:=fQ (by rw[g1,hm0];simp)
    subst hn
    rw[SR]at g2 g3
    have iu:=Qnl (P:=P) w (ty:=ty) (n:=0) (cap:=0) (a:=a) (w':=w) ht pH hx hi g2 (by simpa using g3 0 (aO _) w rfl) (by simp) (λb _=>by simp [storeCells]) (λ_=>rfl)
    refine⟨_,w,(c.kill ks).jB R.length ⟨false,e,i.size,ys⟩,iu,⟨Wv Cj FM rfl SR h0,SM FM _,Fr.refl _ w,λb hb=> .inl hb,λr aq h1 h2=> ?_⟩,Ux (ρ':=c.ρ) (V':=c.V) hR,?_⟩
    . have gl:r≠R.length:=λe=>h2 (.inl e)
      have mZ:(c.kill ks).R r=some aq:=by simpa [Ctx.jB,gl] using h1
      obtain⟨_,kd,h3,_⟩:=om mZ
      exact .inl ⟨⟨kd,h3⟩,λe=>h2 (.inr e),rfl⟩
    . exact⟨⟨false,e,i.size,ys⟩,by simp [Ctx.jB],rfl, .inl ⟨.inl rfl,a,rfl,AJ⟩⟩
  . have hlen:(0+ys.l.length:Nat)*i.bytes<=140737488355328:=by rw[uS,fV];exact oF
    have Ua:0+ys.l.length<=140737488355328:=bH (fW _ (by rw[uS];exact pE)) hlen
    have YR:0+ys.l.length<=maxLen:=by unfold maxLen;omega
    have iu:=Qn4 (P:=P) w (ty:=ty) (n:=0) (cap:=0) (a:=a) (lj:=[]) (news:=news) ht pH hx hi hz g2
      (by have:=g3 _ (aO _) w.drew rfl;rwa [fL (by omega)]at this)
      (by cases a with
          |none=>simp [Builtin.firstCells]
          |some a=>simpa using run_firstCells_some (P:=P) w.drew i.size 0 a 0 0 [] (by simp) (λj v h=>by simp at h)) (by omega) (by omega) (growslice_fits (by omega) hlen)
    have pQ:=grownCap_ge w (0+ys.l.length) 0 e
    have AH:grownCap w (0+ys.l.length) 0 e<=maxLen:=grownCap_le_maxLen w _ _ e YR
    generalize grownCap w (0+ys.l.length) 0 e=gc at iu pQ AH
    have my:(#[]++news.toArray++Builtin.zeroCells z.cells (gc-(0+ys.l.length))).size=gc*i.size:=by
      have e1:(#[]++news.toArray++Builtin.zeroCells z.cells (gc-(0+ys.l.length))).size=ys.l.length*i.size+(gc-(0+ys.l.length))*i.size:=by
        simp [size_zeroCells,FN,g1]
      rw[e1,<-bC]
      congr 1;omega
    have hE: ∀(I:ag) (w':World),(∀b,c.I b->I b/\w'.heap[b]? =w.heap[b]?)->iN I w' ys.l (#[]++news.toArray++Builtin.zeroCells z.cells (gc-(0+ys.l.length))) 0 i.size:=λI w' h=>by
      have:=YQ (I:=I) (w:=w') (es:=[]) (ys:=ys.l) (A:=[]) (B:=news) (C:=(Builtin.zeroCells z.cells (gc-(0+ys.l.length))).toList) (sz:=i.size) (by simp [pT,oq]) (by simp) (oh h _ _ _ _ g4) g1
      have h2:(#[]++news.toArray++Builtin.zeroCells z.cells (gc-(0+ys.l.length)))=([]++news++(Builtin.zeroCells z.cells (gc-(0+ys.l.length))).toList).toArray:=by apply fT;simp
      rw[h2];simpa using this
    have Hq:=Mem.alloc (w:=w.drew) (Kz Cj) FM ⟨false,e,i.size,ys⟩ (#[]++news.toArray++Builtin.zeroCells z.cells (gc-(0+ys.l.length))) h0 (by
      simp only[aN,if_false]
      exact hE _ _ λb hb=>⟨hb,rfl⟩)
    have oG:=Zj (c:=c.kill ks) (w:=w.drew) (k:=R.length) (e:=e) (sz:=i.size) (cap:=gc) (es:=ys) (arr:= #[]++news.toArray++Builtin.zeroCells z.cells (gc-(0+ys.l.length))) (by omega) AH my.symm
    refine⟨_,_,(c.kill ks).add R.length ⟨false,e,i.size,ys⟩ w.heap.size,iu,⟨Hq,(Nk _ w).trans (jq.alloc (w:=w.drew) (Kz Cj) FM _ _),?_,λb hb=> .inl hb,λr aq h1 h2=> ?_⟩,Ux (ρ':=c.ρ) (V':=c.V) hR,by have h3:=oG;simp only[aX]at h3⊢;exact h3⟩
    . exact Fr.trans (w':=w.drew) ⟨rfl,rfl,rfl,aO _,λ_ _ _=>rfl⟩ (Fr.alloc _ w.drew _)
    . by_cases e1:r=R.length
      . subst e1
        right;right
        simp [Ctx.add]
      . have mZ:(c.kill ks).R r=some aq:=by simpa [Ctx.add,e1] using h1
        obtain⟨_,kd,h3,_⟩:=om mZ
        exact .inl ⟨⟨kd,h3⟩,by simpa [Ctx.add,e1,Ctx.kill] using h2,by simp [Ctx.add,e1,Ctx.kill]⟩
theorem Zez{t tx ty:TypeId}{i:TypeInfo}{z:Value}{ux:TypeDesc}(ht:P.underlying t=some (.slice e))(pH:P.underlying tx=some ux)(hx:∀k,ux≠.int k)(hi:P.info? e=some i)(hz:i.zero=some z)(fv:i.size=sz)(uS:i.bytes=lV)(FN:z.cells.size=sz)
 (hm:Mem c w) (hb:c.base<=w.heap.size) (hR:∀r,c.R r=R.getD r none) (h0:0<sz) (pE:0<lV) (oF:lV*(es.l.length+ys.l.length)<=140737488355328) {r:Nat} {row:Row} (q1:c.R r=some row) (Uw:row.ty=e) (hV:¬c.V r) {cap:Nat} {cur:Array Value} (h1:es.l.length<=cap) (h2:cap<=maxLen) (h3:w.heap[c.ρ r]?=some (.cells cur e (0,0))) (h4:cap*sz=cur.size) (JF:iN c.I w es.l cur 0 sz) {vy:Value} (hs:Src P c w vy ys.l sz):
 ∃v' w' c',(Builtin.append_ #[t,tx] ty #[.slice (some ⟨c.ρ r,0,none⟩) es.l.length cap,vy]).run P w=.ok v' w'/\jM [r] c w c' w'/\(∀q,c'.R q=(se [r] R 0++[some (⟨false,e,sz,es.app ys⟩:Row)]).getD q none)/\Rep c' w' (.all R.length) v':=by
 obtain⟨news,g1,g2,g3,g4⟩:=hs
 have hk:c.R R.length=none:=by rw[hR];simp[aK]
 have FM:(c.kill [r]).R R.length=none:=by simp[Ctx.kill,hk]
 have Cj:=YN (ks:=[r]) hm
 subst fv
 have hlen:(es.l.length+ys.l.length)*i.bytes<=140737488355328:=by rw[uS,fV];exact oF
 have Ua:es.l.length+ys.l.length<=140737488355328:=bH (fW _ (by rw[uS];exact pE)) hlen
 have YR:es.l.length+ys.l.length<=maxLen:=by unfold maxLen;omega
 obtain⟨lj,o1,o2,o3⟩:=Zfc JF h0
 by_cases kZ:es.l.length+ys.l.length<=cap
 ·have rl:es.l.length*i.size+0+news.length<=cur.size:=by rw[g1,<-h4,bG,<-bC];exact aV _ kZ
  have j0:=run_storeCells_at (P:=P) (c.ρ r) (es.l.length*i.size) e news 0 cur w h3 rl (iN.one g4 g1)
  simp only[bG]at j0 rl
  have iu:=Qnl (P:=P) w (ty:=ty) (n:=es.l.length) (cap:=cap) (a:=some ⟨c.ρ r,0,none⟩) ht pH hx hi g2 (by have:=g3 _ (aO _) w rfl;rwa [fL (by omega)]at this) kZ (λb hb=>by cases hb;rw[Addr.add_lit,aX];exact j0) (λh=>by cases h)
  have hE:∀w',(∀b,c.I b->w'.heap[b]?=w.heap[b]?)->iN c.I w' (es.app ys).l (cur.toList.take (es.l.length*i.size)++news++cur.toList.drop (es.l.length*i.size+news.length)).toArray 0 i.size:=λw' h=>by
   rw[ai.kb]
   refine YQ (A:=cur.toList.take (es.l.length*i.size)) (oh (λb hb=>⟨hb,h b hb⟩) _ _ _ _ ?_) (by rw[bD,show cur.toList.length=cur.size from rfl];omega) (oh (λb hb=>⟨hb,h b hb⟩) _ _ _ _ g4) g1
   have:cur.toList.take (es.l.length*i.size)=lj:=by
    apply List.ext_getElem?
    intro j
    by_cases hj:j<lj.length
    ·have:=o2 j _ (cG hj)
     rw[aU,if_pos (by omega),cG hj]
     simpa using this
    ·rw[aM (by rw[bD];omega),aM (by omega)]
   rw[this];exact o3
  obtain⟨k1,k2⟩:=qN hm (k:=R.length) (aq:=⟨false,e,i.size,es.app ys⟩) q1 hV hk (by rw[Uw];exact h3) Uw.symm h0 rfl hE
  refine⟨_,_,_,iu,⟨k2,k1,(SE w _ _).mono λb _ hb=>⟨r,_,q1,hV,hb.symm⟩,λb hb=>.inl hb,λq aq p1 p2=>?_⟩,Ux (ρ':=c.ρ) (V':=c.V) hR,?_⟩
  ·by_cases e1:q=R.length
   ·subst e1
    exact .inr (.inl ⟨r,_,by simp[cf],q1,hV,by simp[Ctx.add]⟩)
   ·have mZ:(c.kill [r]).R q=some aq:=by simpa[Ctx.add,e1]using p1
    obtain⟨_,kd,CM,_⟩:=om mZ
    exact .inl ⟨⟨kd,CM⟩,by simpa[Ctx.add,e1,Ctx.kill]using p2,by simp[Ctx.add,e1,Ctx.kill]⟩
  ·refine⟨⟨false,e,i.size,es.app ys⟩,by simp[Ctx.add],rfl,.inr ⟨by simp[Ctx.add],cap,(cur.toList.take (es.l.length*i.size)++news++cur.toList.drop (es.l.length*i.size+news.length)).toArray,?_,by rw[ai.kb,lA];exact kZ,h2,?_,?_⟩⟩
   ·simp only[Ctx.add,if_true,ai.kb,lA]
   ·simp only[Ctx.add,if_true];exact setRow_heap w _ _ _ _ _ h3
   ·simp only[bA,lA,bD,bF,Array.length_toList]
    rw[h4];omega
 ·have iu:=Qn4 (P:=P) w (ty:=ty) (n:=es.l.length) (cap:=cap) (a:=some ⟨c.ρ r,0,none⟩) (lj:=lj) (news:=news) ht pH hx hi hz g2
   (by have:=g3 _ (aO _) w.drew rfl;rwa [fL (by omega)]at this)
   (run_firstCells_some (P:=P) w.drew i.size es.l.length _ _ cap lj o1 λj v hj=>by
    rw[zr (w:=w.drew) h3];exact o2 j v hj) (by omega) (by omega) (growslice_fits (by omega) hlen)
  have pQ:=grownCap_ge w (es.l.length+ys.l.length) cap e
  have AH:grownCap w (es.l.length+ys.l.length) cap e<=maxLen:=grownCap_le_maxLen w _ _ e YR
  generalize grownCap w (es.l.length+ys.l.length) cap e=gc at iu pQ AH
  have my:(lj.toArray++news.toArray++Builtin.zeroCells z.cells (gc-(es.l.length+ys.l.length))).size=gc*i.size:=by
   have e1:(lj.toArray++news.toArray++Builtin.zeroCells z.cells (gc-(es.l.length+ys.l.length))).size=es.l.length*i.size+ys.l.length*i.size+(gc-(es.l.length+ys.l.length))*i.size:=by
    simp[size_zeroCells,FN,g1,o1]
   rw[e1,<-bC,<-bC]
   congr 1;omega
  have hE:∀(I:ag) (w':World),(∀b,c.I b->I b/\w'.heap[b]?=w.heap[b]?)->iN I w' (es.app ys).l (lj.toArray++news.toArray++Builtin.zeroCells z.cells (gc-(es.l.length+ys.l.length))) 0 i.size:=λI w' h=>by
   rw[ai.kb]
   have:=YQ (I:=I) (w:=w') (es:=es.l) (ys:=ys.l) (A:=lj) (B:=news) (C:=(Builtin.zeroCells z.cells (gc-(es.l.length+ys.l.length))).toList) (sz:=i.size) (oh h _ _ _ _ o3) o1 (oh h _ _ _ _ g4) g1
   have h2:(lj.toArray++news.toArray++Builtin.zeroCells z.cells (gc-(es.l.length+ys.l.length)))=(lj++news++(Builtin.zeroCells z.cells (gc-(es.l.length+ys.l.length))).toList).toArray:=by apply fT;simp
   rw[h2];exact this
  have Hq:=Mem.alloc (w:=w.drew) (Kz Cj) FM ⟨false,e,i.size,es.app ys⟩ (lj.toArray++news.toArray++Builtin.zeroCells z.cells (gc-(es.l.length+ys.l.length))) h0 (by
   simp only[aN,if_false]
   exact hE _ _ λb hb=>⟨hb,rfl⟩)
  have oG:=Zj (c:=c.kill [r]) (w:=w.drew) (k:=R.length) (e:=e) (sz:=i.size) (cap:=gc) (es:=es.app ys) (arr:=lj.toArray++news.toArray++Builtin.zeroCells z.cells (gc-(es.l.length+ys.l.length))) (by rw[ai.kb,lA];omega) AH my.symm
  refine⟨_,_,(c.kill [r]).add R.length ⟨false,e,i.size,es.app ys⟩ w.heap.size,iu,⟨Hq,(Nk _ w).trans (jq.alloc (w:=w.drew) (Kz Cj) FM _ _),?_,λb hb=>.inl hb,λq aq p1 p2=>?_⟩,Ux (ρ':=c.ρ) (V':=c.V) hR,by rw[ai.kb,lA]at oG;exact oG⟩
  ·exact Fr.trans (w':=w.drew) ⟨rfl,rfl,rfl,aO _,λ_ _ _=>rfl⟩ (Fr.alloc _ w.drew _)
  ·by_cases e1:q=R.length
   ·subst e1
    right;right
    simp[Ctx.add]
   ·have mZ:(c.kill [r]).R q=some aq:=by simpa[Ctx.add,e1]using p1
    obtain⟨_,kd,CM,_⟩:=om mZ
    exact .inl ⟨⟨kd,CM⟩,by simpa[Ctx.add,e1,Ctx.kill]using p2,by simp[Ctx.add,e1,Ctx.kill]⟩
theorem Zos{t tx ty:TypeId}{i:TypeInfo}{z:Value}{ux:TypeDesc}(ht:P.underlying t=some (.slice e))(pH:P.underlying tx=some ux)(hx:∀k,ux≠.int k)(hi:P.info? e=some i)(hz:i.zero=some z)(fv:i.size=sz)(uS:i.bytes=lV)(FN:z.cells.size=sz)
 (hm:Mem c w) (hb:c.base<=w.heap.size) (hR:∀r,c.R r=R.getD r none) (h0:0<sz) (pE:0<lV) (oF:lV*(es.l.length+ys.l.length)<=140737488355328) {r:Nat} (hr:R.getD r none=some ⟨false,e,sz,es⟩) {vx vy:Value} (YS:Rep c w (.all r) vx) (hs:Src P c w vy ys.l sz):
 ∃v' w' c',(Builtin.append_ #[t,tx] ty #[vx,vy]).run P w=.ok v' w'/\jM [r] c w c' w'/\(∀q,c'.R q=(se [r] R 0++[some (⟨false,e,sz,es.app ys⟩:Row)]).getD q none)/\Rep c' w' (.all R.length) v':=by
 obtain⟨row,q1,q2,hv⟩:=YS
 have cr:row=⟨false,e,sz,es⟩:=by rw[hR,hr]at q1;exact(Option.some.inj q1).symm
 subst cr
 rcases hv with⟨hV,a,hv,AJ⟩|⟨hV,cap,cur,hv,h1,h2,h3,h4⟩
 ·have he:=(hm.oi q1 hV).2.1
  simp only at he
  subst hv
  have hl:(es.app ys).l=ys.l:=by rw[ai.kb,he];rfl
  exact append_empty (ks:=[r]) (ys:=es.app ys) ht pH hx hi hz fv uS FN hm hb hR h0 pE (by rw[hl];rw[he]at oF;simpa using oF) AJ (by rw[hl];exact hs)
 ·have hl:=hm.real q1 hV
  obtain⟨NM,jJ,_,JF⟩:=hl
  simp only at h1 h3 h4 hv jJ
  subst hv
  rw[h3]at jJ;cases jJ
  simp only[aN,if_false]at JF
  exact Zez ht pH hx hi hz fv uS FN hm hb hR h0 pE oF q1 rfl hV h1 h2 h3 h4 JF hs
theorem Zot{n:Nat}{t tx ty:TypeId}{i:TypeInfo}{z:Value}{ux:TypeDesc}(ht:P.underlying t=some (.slice e))(pH:P.underlying tx=some ux)(hx:∀k,ux≠.int k)(hi:P.info? e=some i)(hz:i.zero=some z)(fv:i.size=sz)(uS:i.bytes=lV)(FN:z.cells.size=sz)
 (hm:Mem c w) (hb:c.base<=w.heap.size) (hR:∀r,c.R r=R.getD r none) (h0:0<sz) (pE:0<lV) (oF:lV*((es.take n).l.length+ys.l.length)<=140737488355328) {r:Nat} (hr:R.getD r none=some ⟨false,e,sz,es⟩) {vx vy:Value} (YS:Rep c w (.own r 0 n) vx) (hs:Src P c w vy ys.l sz):
 ∃v' w' c',(Builtin.append_ #[t,tx] ty #[vx,vy]).run P w=.ok v' w'/\jM [r] c w c' w'/\(∀q,c'.R q=(se [r] R 0++[some (⟨false,e,sz,(es.take n).app ys⟩:Row)]).getD q none)/\Rep c' w' (.all R.length) v':=by
 obtain⟨row,q1,q2,hle,hv⟩:=YS
 have cr:row=⟨false,e,sz,es⟩:=by rw[hR,hr]at q1;exact(Option.some.inj q1).symm
 subst cr
 have hln:(es.take n).l.length=n:=by rw[ai.jf,bD];simp only at hle;omega
 rcases hv with⟨h0',a,hv,AJ⟩|⟨hV,cap,cur,h1,h2,h3,hv,h4⟩
 ·subst hv;subst h0'
  have Hp:(es.take 0).l=[]:=by rw[ai.jf];rfl
  have hl:((es.take 0).app ys).l=ys.l:=by rw[ai.kb,Hp];rfl
  have g:jq c w {c with top:=w.heap.size} w:=⟨rfl,hm.top,λb hb=>⟨hb,rfl⟩,λr row hr=>⟨row,hr,rfl,rfl,rfl,rfl,rfl,Iff.rfl,λnv arr ha=>⟨arr,ha,rfl⟩⟩⟩
  have IC:Mem {c with top:=w.heap.size} w:=⟨λr row hr=>ue g rfl Iff.rfl (λ_=>rfl) (hm.row r row hr),hm.inj,hm.fk,aO _,hm.kX⟩
  have Gt:AI w.heap.size a:=by
   rcases AJ with h|⟨hV,h⟩
   ·exact h.mono hm.top
   ·exactλx hx=>by rw[h x hx];exact hm.lt q1 hV
  obtain⟨v',w',c',p1,p2,p3,p4⟩:=append_empty (c:={c with top:=w.heap.size}) (ks:=[r]) (ys:=(es.take 0).app ys) ht pH hx hi hz fv uS FN IC hb hR h0 pE (by rw[hl];rw[Hp]at oF;simpa using oF) Gt (by rw[hl];exact hs)
  refine⟨v',w',c',p1,⟨p2.mem,?_,p2.fr,p2.fk,p2.oj⟩,p3,p4⟩
  have g':jq (c.kill [r]) w (Ctx.kill {c with top:=w.heap.size} [r]) w:=⟨rfl,hm.top,λb hb=>⟨hb,rfl⟩,λr row hr=>⟨row,hr,rfl,rfl,rfl,rfl,rfl,Iff.rfl,λnv arr ha=>⟨arr,ha,rfl⟩⟩⟩
  exact g'.trans p2.cj
 ·obtain⟨NM,jJ,_,JF⟩:=hm.real q1 hV
  simp only at h3 h4 hv jJ
  rw[h3]at jJ;cases jJ
  simp only[aN,if_false]at JF
  have hE1:iN c.I w (es.take n).l cur 0 sz:=by rw[ai.jf];exact Mx JF
  rw[hv,show((0:Nat)*sz)=0 from Nat.zero_mul _]
  have:=Zez (ty:=ty) (es:=es.take n) (cap:=cap) ht pH hx hi hz fv uS FN hm hb hR h0 pE oF q1 rfl hV (by rw[hln];exact h1) h2 h3 (by rw[<-h4,aX]) hE1 hs
  rw[hln]at this
  exact this
end
theorem SD{E:ai}(h:IM E=true):E.l=[]:=by
 unfold IM at h
 split at h
 ·rfl
 ·cases h
theorem Znp{P:Program}{T:fj}(hT:jF P T){M:Nat}{t tx ty:TypeId}{x y:D}{R:Rows}{K:List Nat->D->Rows->Prop}(h:My T M t tx x y R K):
    ∃ ks R',K ks (.all R.length) R'/\(∀k,cf k ks=true->M<=k)/\ ∀c w vx vy,Mem c w->c.base<=w.heap.size->(∀r,c.R r=R.getD r none)->Rep c w x vx->Rep c w y vy->
      ∃v' w' c',(Builtin.append_ #[t,tx] ty #[vx,vy]).run P w= .ok v' w'/\jM ks c w c' w'/\(∀r,c'.R r=R'.getD r none)/\Rep c' w' (.all R.length) v':=by
  unfold My at h
  split at h
  . rename_i e iR _ _ _ _ _ ht
    have hk:=mY hT ht
    simp only at hk
    split at h
    . rename_i ke sz lV cs z q kx _ _ _ _ _ he htx
      obtain⟨i,u,hi,hu,JG,hs,hb,hc,hzero⟩:=JH hT he
      have Uy:=mY hT htx
      split at h
      . rename_i sy ys ka
        simp only[c9,aE,Bool.or_eq_true]at h
        obtain⟨⟨⟨⟨h0,h1⟩,h2,h3⟩,h4,h5⟩,h⟩:=h
        have h0:0<sz:=lE h0
        have pE:0<lV:=lE h4
        have h2:=bE h2
        have h5:sy=sz\/ys.l=[]:=h5.imp bE SD
        have w4:u.cells.size=sz:=by have:=P1 JG;simp at this;omega
        obtain⟨ux,pH,nF⟩: ∃ux,P.underlying tx=some ux/\ ∀k,ux≠ .int k:=by
          unfold CV at ka
          split at ka
          . simp only at Uy;exact⟨_,Uy.1,λk e=>by cases e⟩
          . simp only at Uy;exact⟨_,Uy,λk e=>by cases e⟩
          . cases ka
        have w5: ∀(c:Ctx) (w:World) (vy:Value),Mem c w->(∀r,c.R r=R.getD r none)->Rep c w y vy->Src P c w vy ys.l sz:=λc w vy hm hR hy=>yX h0 ka h5 hm (λr row aq g1 g2=>by rw[hR,g2]at g1;exact(Option.some.inj g1).symm) hy
        cases x<;>simp only at h
        case du=>
          simp only[CX,c9,decide_eq_true_eq,nm,<-ai.iK]at h
          refine⟨_,_,h.2,λk hk=>by simp [cf]at hk,λc w vx vy hm tI hR hx hy=> ?_⟩
          rw[show vx=_ from hx]
          have hl:((ai.gen []).app ys).l=ys.l:=by rw[ai.kb];rfl
          exact append_empty (ks:=[]) (ys:=(ai.gen []).app ys) hk.1 pH nF hi hu hs hb w4 hm tI hR h0 pE (by rw[hl];have:=h.1;simpa [ai.l] using this) Ny (by rw[hl];exact w5 c w vy hm hR hy)
        case emp=>
          simp only[CX,c9,decide_eq_true_eq,nm,<-ai.iK]at h
          refine⟨_,_,h.2,λk hk=>by simp [cf]at hk,λc w vx vy hm tI hR hx hy=> ?_⟩
          obtain⟨a,hx,AJ⟩:=hx
          rw[hx]
          have hl:((ai.gen []).app ys).l=ys.l:=by rw[ai.kb];rfl
          exact append_empty (ks:=[]) (ys:=(ai.gen []).app ys) hk.1 pH nF hi hu hs hb w4 hm tI hR h0 pE (by rw[hl];have:=h.1;simpa [ai.l] using this) AJ (by rw[hl];exact w5 c w vy hm hR hy)
        case all r=>
          split at h
          . rename_i j6 s es hr
            simp only[aE,CX,c9,decide_eq_true_eq,nm,<-ai.iK]at h
            obtain⟨⟨⟨g1,g2⟩,g3⟩,g5,g6⟩:=h
            have g1:=bE g1
            have g2:=bE g2
            subst g1;subst g2
            refine⟨_,_,g6,λk hk=> ?_,λc w vx vy hm tI hR hx hy=> ?_⟩
            . have:=ot.1 hk
              simp at this
              rw[this];exact lE g3
            . exact Zos hk.1 pH nF hi hu hs hb w4 hm tI hR h0 pE g5 hr hx (w5 c w vy hm hR hy)
          . exact h.elim
        case own r o n=>
          split at h
          . rename_i j6 s es hr
            simp only[aE,CX,c9,decide_eq_true_eq,nm,<-ai.iK]at h
            obtain⟨⟨⟨g1,g2⟩,g3,g4⟩,g5,g6⟩:=h
            have g1:=bE g1
            have g2:=bE g2
            have g4:=bE g4
            subst g1;subst g2;subst g4
            refine⟨_,_,g6,λk hk=> ?_,λc w vx vy hm tI hR hx hy=> ?_⟩
            . have:=ot.1 hk
              simp at this
              rw[this];exact lE g3
            . exact Zot hk.1 pH nF hi hu hs hb w4 hm tI hR h0 pE g5 hr hx (w5 c w vy hm hR hy)
          . exact h.elim
      . exact h.elim
    . exact h.elim
  . exact h.elim
theorem Z31{c:Ctx}{w:World}{d:D}{v:Value}(gl:∀f cs,d≠.gj f cs)(h:cz c w d v):cz {c with base:=0} w d v:=by
 cases d with
 |sl sz es fr=>
  obtain⟨a,cap,hv,hc,gx⟩:=h
  refine⟨a,cap,hv,hc,?_⟩
  rcases gx with gx|⟨b,off,arr,ty,fz,ha,hI,hf,hh,hE⟩
  ·exact .inl gx
  ·exact .inr ⟨b,off,arr,ty,fz,ha,hI,λ_=>Nat.zero_le _,hh,hE⟩
 |gj f cs=>exact absurd rfl (gl f cs)
 |_=>exact h
theorem YT{c:Ctx}{w:World}{d:D}{v:Value}(h:cz c w d v):cz {c with base:=0} w d v:=by
 by_cases e:∃g cs,d=.gj g cs
 ·obtain⟨g,cs,rfl⟩:=e
  obtain⟨us,hv,hu⟩:=h
  exact⟨us,hv,YM (c:=c) (w:=w) (c':={c with base:=0}) (w':=w) (S:=λ_=>True) (λd v q1 _ q2=>Z31 q1 q2) (λ_ hb=>⟨hb,rfl⟩) (λ_ _=>trivial) hu⟩
 ·exact Z31 (λf cs e'=>e ⟨f,cs,e'⟩) h
theorem Z2e{c:Ctx}{w:World}:∀{ds:List D} {vs:List Value},jt c w ds vs->jt {c with base:=0} w ds vs
 |[],[],_=>trivial
 |_::_,_::_,h=>⟨YT h.1,Z2e h.2⟩
 |[],_::_,h=>h.elim
 |_::_,[],h=>h.elim
theorem Za{c:Ctx}{w:World}{d:D}{v:Value}(h:VRep c w d v):VRep {c with base:=0} w d v:=by
 cases d with
 |agg cs=>obtain⟨vs,hv,hr⟩:=h;exact⟨vs,hv,Z2e hr⟩
 |_=>exact VRep.EW (YT (VRep.toC (λcs e=>by cases e) h))
theorem YU{c:Ctx}{w:World}:∀{ds:List D} {vs:List Value},kr c w ds vs->kr {c with base:=0} w ds vs
 |[],[],_=>trivial
 |_::_,_::_,h=>⟨Za h.1,YU h.2⟩
 |[],_::_,h=>h.elim
 |_::_,[],h=>h.elim
theorem Qyy{c:Ctx}{w:World}:∀{ds:List D} {arr:Array Value} {off:Nat},kU c w ds arr off->kU {c with base:=0} w ds arr off
 |[],_,_,_=>trivial
 |_::_,_,_,⟨⟨v,hv,h1⟩,h2⟩=>⟨⟨v,hv,YT h1⟩,Qyy h2⟩
theorem Zhq{c:Ctx}{w:World}(h:Mem c w):Mem {c with base:=0} w:=by
 refine⟨λr row hr=>?_,h.inj,h.fk,h.top,h.kX⟩
 rcases h.row r row hr with h0|⟨h0,arr,ha,hs,hx⟩
 ·exact .inl h0
 ·refine .inr ⟨h0,arr,ha,hs,?_⟩
  split
  ·rename_i hb
   rw[if_pos hb]at hx
   obtain⟨e,k1,k2,k3,k4⟩:=hx
   exact⟨e,k1,k2,k3,Qyy k4⟩
  ·rename_i hb
   rw[if_neg hb]at hx
   exact hx
theorem Qyz{f:Nat->Nat}:∀{ids:List Nat} {rows:List Row} {R:Rows},ids.Nodup->ids.length<=rows.length->(∀r∈ids,r<R.length)->
 (FO f ids rows R).length=R.length/\(∀(i r:Nat),ids[i]?=some r->∃row,rows[i]?=some row/\(FO f ids rows R).getD r none=some (row.jm f false))/\∀r,r∉ids->(FO f ids rows R).getD r none=R.getD r none
 |[],rows,R,_,_,_=>by
  have:FO f [] rows R=R:=by cases rows<;>rfl
  rw[this]
  exact⟨rfl,λi r h=>by simp at h,λ_ _=>rfl⟩
 |r::ids,[],R,_,hl,_=>by simp at hl
 |r ::ids,row::rows,R,ly,hl,cq=>by
  obtain⟨IK,JI⟩:=List.nodup_cons.1 ly
  obtain⟨g1,g2,g3⟩:=Qyz (f:=f) (ids:=ids) (rows:=rows) (R:=R.set r (some (row.jm f false))) JI (by simpa using hl) (λq hq=>by simpa using cq q (by simp[hq]))
  have hr:=cq r (by simp)
  have YV:(R.set r (some (row.jm f false))).getD r none=some (row.jm f false):=by simp[aK,hr]
  have gl:∀q,q≠r->(R.set r (some (row.jm f false))).getD q none=R.getD q none:=λq hq=>by simp[aK,List.getElem?_set_ne (Ne.symm hq)]
  simp only[FO]
  refine⟨by simpa using g1,λi q hq=>?_,λq hq=>?_⟩
  ·cases i with
   |zero=>
    simp at hq;subst hq
    exact⟨row,rfl,by rw[g3 _ IK];exact YV⟩
   |succ i=>simpa using g2 i q (by simpa using hq)
  ·have h1:q≠r:=λe=>hq (by simp[e])
   rw[g3 q (λe=>hq (by simp[e])),gl q h1]
def Ctx.dz(c:Ctx)(c':Ctx)(kl n0:Nat)(R2:Rows):Ctx:=
 { ρ:=λr=>if n0<=r/\r<R2.length then c'.ρ (kl+(r-n0)) else c.ρ r,
   R:=λr=>R2.getD r none,
   V:=λr=>if n0<=r/\r<R2.length then c'.V (kl+(r-n0)) else c.V r,
   I:=c'.I,base:=c.base,top:=c'.top,X:=c.X}
theorem Mz{i k n:Nat}:cf i (bK k n)=true↔k<=i/\i<k+n:=by
 rw[ot,List.mem_range'_1]
theorem Za2{c c':Ctx}{w w':World}{R:Rows}{ids:List Nat}{k:Nat}{dx ak:List Row}(hm:Mem c w)(hR:∀r,c.R r=R.getD r none)
 (ly:ids.Nodup) (c6:BA R (λr=>pos r ids 0) ids=some dx) (hle:(ids.take k).length<=ak.length)
 (hx:jM (bK k (dx.length-k)) {c.pass w ids dx false with base:=0} w c' w') (j7:∀i,c'.R i=ak[i]?)
 {R2:Rows} (uT:R2=FO (bk (ids.take k) R.length) (ids.take k) ak (se (ids.drop k) R 0)++P2 (bk (ids.take k) R.length) (ak.drop (ids.take k).length)):
 EB (λ_=>True) (bk (ids.take k) R.length) false c' (c.dz c' (ids.take k).length R.length R2)/\
 jM (ids.drop k) c w (c.dz c' (ids.take k).length R.length R2) w':=by
 obtain⟨gz,AZ⟩:=FP c6
 generalize hf:bk (ids.take k) R.length=f at*
 generalize YW:(ids.take k).length=kl at*
 have nX:∀r row,R.getD r none=some row->c.R r=some row:=λr row e=>by rw[hR];exact e
 have cq:∀r∈ids,r<R.length:=λr hr=>by
  obtain⟨row,h1,_⟩:=AZ _ r (BB hr)
  by_cases hl:r<R.length
  ·exact hl
  ·rw[aK,aM (by omega)]at h1;cases h1
 have htd:ids.take k++ids.drop k=ids:=List.take_append_drop k ids
 have YX:(ids.take k).Nodup:=by rw[<-htd]at ly;exact(List.nodup_append.1 ly).1
 have P3:∀r,r∈ids.take k->r∈ids.drop k->False:=λr h1 h2=>by
  rw[<-htd]at ly
  exact(List.nodup_append.1 ly).2.2 r h1 r h2 rfl
 have Jaw:kl=min k ids.length:=by rw[<-YW];simp
 have CY:∀i,i<kl->(ids.take k)[i]?=ids[i]? :=λi hi=>by rw[aU,if_pos (by omega)]
 have sY:∀i r,ids[i]?=some r->kl<=i->r∈ids.drop k:=λi r hi pQ=>by
  have mV:=(List.getElem?_eq_some_iff.1 hi).1
  have:(ids.drop k)[i-k]?=some r:=by rw[fU,show k+(i-k)=i by omega];exact hi
  exact fX this
 obtain⟨k1,k2,k3⟩:=Qyz (f:=f) (ids:=ids.take k) (rows:=ak) (R:=se (ids.drop k) R 0) YX (by rw[YW];exact hle) (λr hr=>by rw[JD];exact cq r (cV hr))
 rw[JD]at k1
 have wC:R2.length=R.length+(ak.length-kl):=by rw[uT];simp[k1,P2]
 have P4:∀r,r<R.length->R2.getD r none=(FO f (ids.take k) ak (se (ids.drop k) R 0)).getD r none:=λr hr=>by
  rw[uT,aK,aK,aZ (by omega)]
 have YY:∀i,kl<=i->i<ak.length->R2.getD (R.length+(i-kl)) none=ak[i]?.map λrow=>row.jm f false:=λi h1 h2=>by
  have:∀(l:List Row) (j:Nat),(P2 f l)[j]?=l[j]?.map λrow=>some (row.jm f false):=λl j=>by simp[P2]
  rw[uT,aK,bB (by omega),this,k1,show R.length+(i-kl)-R.length=i-kl by omega,fU,show kl+(i-kl)=i by omega]
  rw[cG h2];rfl
 have jG:∀i r aq,i<kl->ids[i]?=some r->c'.R i=some aq->∃row,c.R r=some row/\aq.box=row.box/\aq.ty=row.ty/\aq.sz=row.sz/\aq.es.l.length=row.es.l.length/\c'.ρ i=c.ρ r/\(c'.V i↔c.V r)/\r<R.length/\R2.getD r none=some (aq.jm f false)/\f i=r/\
  (¬c.V r->∀arr,w.heap[c.ρ r]?=some (.cells arr row.ty (0,0))->∃iS,w'.heap[c.ρ r]?=some (.cells iS row.ty (0,0))/\iS.size=arr.size):=by
  intro i r aq oc hi jr
  obtain⟨row,h1,h2⟩:=AZ i r hi
  have jT:=fX hi
  have h3:=nX r row h1
  have CZ:(({c.pass w ids dx false with base:=0}:Ctx).kill (bK k (dx.length-k))).R i=some ((row.jm (λr=>pos r ids 0) false).kill (bK k (dx.length-k))):=by
   simp only[Ctx.kill,Ctx.pass]
   rw[if_neg (λe=>by have:=Mz.1 e;omega),h2];rfl
  obtain⟨oz,g1,g2,g3,g4,g5,g6,gV,g7⟩:=hx.cj.R i _ CZ
  rw[jr]at g1;cases g1
  obtain⟨s1,s2,s3,s4⟩:=JJ (λr=>pos r ids 0) false row
  obtain⟨t1,t2,t3,t4⟩:=wF (bK k (dx.length-k)) (row.jm (λr=>pos r ids 0) false)
  have iJ:=(CY i oc).trans hi
  obtain⟨lq,q1,q2⟩:=k2 i r iJ
  rw[j7,q1]at jr;cases jr
  refine⟨row,h3,g2.trans (t1.trans s1),g3.trans (t2.trans s2),g4.trans (t3.trans s3),g5.trans (t4.trans s4),by simpa[Ctx.kill,Ctx.pass,hi]using g6,by simpa[Ctx.kill,Ctx.pass,hi]using gV,cq r jT,by rw[P4 r (cq r jT)];exact q2,by rw[<-hf];simp[bk,iJ],λnv arr ha=>?_⟩
  have:=g7 (by simpa[Ctx.kill,Ctx.pass,hi]using nv) arr (by simpa[Ctx.kill,Ctx.pass,hi,s2,t2]using ha)
  simpa[Ctx.kill,Ctx.pass,hi,s2,t2]using this
 have GH:∀i aq,c'.R i=some aq->¬c'.V i->(∃j s row,ids[j]?=some s/\c.R s=some row/\¬c.V s/\c'.ρ i=c.ρ s/\(i<kl->j=i)/\(kl<=i->s∈ids.drop k))\/w.heap.size<=c'.ρ i:=by
  intro i aq h1 nv
  by_cases oc:i<kl
  ·have iJ:ids[i]?=some ids[i]:=cG (by omega)
   obtain⟨row,g1,g2,g3,g4,g5,g6,g7,_⟩:=jG i _ aq oc iJ h1
   exact .inl ⟨i,_,row,iJ,g1,λe=>nv (g7.2 e),g6,λ_=>rfl,λh=>by omega⟩
  ·rcases hx.oj i aq h1 nv with⟨⟨x,nL⟩,v,e⟩|⟨s,x,hs,nL,v,e⟩|e
   ·have I8:dx[i]?=some x:=nL
    have Hr:=(List.getElem?_eq_some_iff.1 I8).1
    have iJ:ids[i]?=some ids[i]:=cG (by omega)
    obtain⟨row,g1,g2⟩:=AZ i _ iJ
    exact .inl ⟨i,_,row,iJ,nX _ _ g1,by simpa[Ctx.pass,iJ]using v,by simpa[Ctx.pass,iJ]using e,λh=>by omega,λ_=>sY i _ iJ (by omega)⟩
   ·have I8:dx[s]?=some x:=nL
    have Hr:=(List.getElem?_eq_some_iff.1 I8).1
    have iJ:ids[s]?=some ids[s]:=cG (by omega)
    obtain⟨row,g1,g2⟩:=AZ s _ iJ
    have hsk:=(Mz.1 hs).1
    exact .inl ⟨s,_,row,iJ,nX _ _ g1,by simpa[Ctx.pass,iJ]using v,by simpa[Ctx.pass,iJ]using e,λh=>by omega,λ_=>sY s _ iJ (by omega)⟩
   ·exact .inr e
 have new:∀i aq,kl<=i->c'.R i=some aq->i<ak.length/\R2.getD (R.length+(i-kl)) none=some (aq.jm f false)/\f i=R.length+(i-kl):=by
  intro i aq hi jr
  have h1:ak[i]?=some aq:=by rw[<-j7];exact jr
  have h2:=(List.getElem?_eq_some_iff.1 h1).1
  refine⟨h2,by rw[YY i hi h2,h1];rfl,?_⟩
  rw[<-hf]
  simp only[bk]
  rw[aM (by omega),YW]
 have Da:EB (λ_=>True) f false c' (c.dz c' kl R.length R2):=by
  refine⟨λi aq _ jr=>?_,(λh=>by cases h),aO _⟩
  obtain⟨s1,s2,s3,s4⟩:=JJ f false aq
  by_cases hi:i<kl
  ·have iJ:ids[i]?=some ids[i]:=cG (by omega)
   obtain⟨row,g1,g2,g3,g4,g5,g6,g7,g8,g9,g10,_⟩:=jG i _ aq hi iJ jr
   rw[g10]
   exact⟨_,g9,s1,s2,s3,s4,by simp only[Ctx.dz];rw[if_neg (by omega),g6],by simp only[Ctx.dz];rw[if_neg (by omega)];exact g7.symm⟩
  ·obtain⟨h1,h2,h3⟩:=new i aq (by omega) jr
   rw[h3]
   have hc:R.length<=R.length+(i-kl)/\R.length+(i-kl)<R2.length:=by omega
   have he:kl+(R.length+(i-kl)-R.length)=i:=by omega
   exact⟨_,h2,s1,s2,s3,s4,by simp only[Ctx.dz];rw[if_pos hc,he],by simp only[Ctx.dz];rw[if_pos hc,he]⟩
 have Ch:Fr (λb=>∃r x,c.R r=some x/\¬c.V r/\r∈ids/\c.ρ r=b) w w':=hx.fr.mono λb _ ⟨i,x,h1,h2,h3⟩=>by
  have mZ:dx[i]?=some x:=h1
  have hi:i<ids.length:=by have:=(List.getElem?_eq_some_iff.1 mZ).1;omega
  have iJ:ids[i]?=some ids[i]:=cG hi
  obtain⟨row,g1,g2⟩:=AZ i _ iJ
  exact⟨_,row,nX _ row g1,by simpa[Ctx.pass,iJ]using h2,fX iJ,by simpa[Ctx.pass,iJ]using h3⟩
 have rest:∀r,r∉ids->r<R.length->R2.getD r none=(R.getD r none).map (Row.kill (ids.drop k)):=λr h1 h2=>by
  rw[P4 r h2,k3 r (λe=>h1 (cV e)),P0,aX,if_neg (λe=>h1 (cW (ot.1 e)))]
 have gone:∀r,r∈ids.drop k->R2.getD r none=none:=λr h=>by
  rw[P4 r (cq r (cW h)),k3 r (λe=>P3 r e h),P0,aX,if_pos (ot.2 h)]
 have inv:∀r x,(c.dz c' kl R.length R2).R r=some x->(∃i aq,c'.R i=some aq/\x=aq.jm f false/\(c.dz c' kl R.length R2).ρ r=c'.ρ i/\((c.dz c' kl R.length R2).V r↔c'.V i)/\(i<kl/\ids[i]?=some r/\(c.dz c' kl R.length R2).ρ r=c.ρ r/\((c.dz c' kl R.length R2).V r↔c.V r)\/R.length<=r/\kl<=i/\r=R.length+(i-kl)))\/
  (∃row,c.R r=some row/\x=row.kill (ids.drop k)/\r∉ids/\(c.dz c' kl R.length R2).ρ r=c.ρ r/\((c.dz c' kl R.length R2).V r↔c.V r)):=by
  intro r x jL
  have jL:R2.getD r none=some x:=jL
  by_cases jT:r∈ids
  ·by_cases hg:r∈ids.drop k
   ·rw[gone r hg]at jL;cases jL
   ·left
    have hp:=BB jT
    have BC:pos r ids 0<kl:=by
     by_cases h:pos r ids 0<kl
     ·exact h
     ·exact(hg (sY _ r hp (by omega))).elim
    obtain⟨lq,q1,q2⟩:=k2 _ r ((CY _ BC).trans hp)
    have rG:c'.R (pos r ids 0)=some lq:=by rw[j7];exact q1
    obtain⟨row,g1,g2,g3,g4,g5,g6,g7,g8,g9,g10,_⟩:=jG _ r lq BC hp rG
    rw[g9]at jL
    cases jL
    have e1:(c.dz c' kl R.length R2).ρ r=c.ρ r:=by simp only[Ctx.dz];rw[if_neg (by omega)]
    have e2:(c.dz c' kl R.length R2).V r↔c.V r:=by simp only[Ctx.dz];rw[if_neg (by omega)]
    exact⟨_,lq,rG,rfl,by rw[e1,g6],by rw[e2,g7],.inl ⟨BC,hp,e1,e2⟩⟩
  ·by_cases hc:R.length<=r
   ·left
    have Uz:r<R2.length:=by
     by_cases h:r<R2.length
     ·exact h
     ·rw[aK,aM (by omega)]at jL;cases jL
    have hi:kl+(r-R.length)<ak.length:=by omega
    have rG:c'.R (kl+(r-R.length))=some ak[kl+(r-R.length)]:=by rw[j7];exact cG hi
    obtain⟨h1,h2,h3⟩:=new _ _ (by omega) rG
    rw[show R.length+(kl+(r-R.length)-kl)=r by omega]at h2
    rw[h2]at jL
    cases jL
    exact⟨_,_,rG,rfl,by simp only[Ctx.dz];rw[if_pos ⟨hc,Uz⟩],by simp only[Ctx.dz];rw[if_pos ⟨hc,Uz⟩],.inr ⟨hc,by omega,by omega⟩⟩
   ·right
    rw[rest r jT (by omega)]at jL
    simp only[fR]at jL
    obtain⟨row,h1,h2⟩:=jL
    exact⟨row,nX r row h1,h2.symm,jT,by simp only[Ctx.dz];rw[if_neg (by omega)],by simp only[Ctx.dz];rw[if_neg (by omega)]⟩
 have apart:∀r row i aq,c.R r=some row->r∉ids->¬c.V r->c'.R i=some aq->¬c'.V i->c'.ρ i≠c.ρ r:=λr row i aq h1 h2 h3 h4 h5 e=>by
  rcases GH i aq h4 h5 with⟨j,s,jE,q1,q2,q3,q4,_⟩|q
  ·have:=hm.inj s r jE row q2 h1 q3 h3 (by rw[<-q4,e])
   subst this
   exact h2 (fX q1)
  ·have:=hm.lt h1 h3;omega
 have rb:jq (c.kill (ids.drop k)) w (c.dz c' kl R.length R2) w':=by
  refine⟨rfl,hx.cj.top,λb iL=>?_,λr x hr=>?_⟩
  ·have h1:(({c.pass w ids dx false with base:=0}:Ctx).kill (bK k (dx.length-k))).I b:=.inl iL
   exact⟨(hx.cj.I b h1).1,(hx.cj.I b h1).2⟩
  ·obtain⟨UA,row,cr,rfl⟩:=om hr
   have UA:r∉ids.drop k:=λe=>by rw[ot.2 e]at UA;cases UA
   obtain⟨u1,u2,u3,u4⟩:=wF (ids.drop k) row
   by_cases jT:r∈ids
   ·have hp:=BB jT
    have BC:pos r ids 0<kl:=by
     by_cases h:pos r ids 0<kl
     ·exact h
     ·exact(UA (sY _ r hp (by omega))).elim
    obtain⟨lq,q1,q2⟩:=k2 _ r ((CY _ BC).trans hp)
    have rG:c'.R (pos r ids 0)=some lq:=by rw[j7];exact q1
    obtain⟨kd,g1,g2,g3,g4,g5,g6,g7,g8,g9,g10,g11⟩:=jG _ r lq BC hp rG
    rw[cr]at g1;cases g1
    obtain⟨s1,s2,s3,s4⟩:=JJ f false lq
    refine⟨_,g9,s1.trans (g2.trans u1.symm),s2.trans (g3.trans u2.symm),s3.trans (g4.trans u3.symm),s4.trans (g5.trans u4.symm),by simp only[Ctx.dz];rw[if_neg (by omega)];rfl,by simp only[Ctx.dz];rw[if_neg (by omega)];rfl,λnv arr ha=>?_⟩
    rw[u2]at ha⊢
    exact g11 nv arr ha
   ·have rI:r<R.length:=by
     by_cases h:r<R.length
     ·exact h
     ·rw[hR,aK,aM (by omega)]at cr;cases cr
    refine⟨row.kill (ids.drop k),?_,rfl,rfl,rfl,rfl,by simp only[Ctx.dz];rw[if_neg (by omega)];rfl,by simp only[Ctx.dz];rw[if_neg (by omega)];rfl,λnv arr ha=>⟨arr,?_,rfl⟩⟩
    ·show R2.getD r none=_
     rw[rest r jT rI,<-hR,cr];rfl
    ·have nv:¬c.V r:=nv
     show w'.heap[c.ρ r]?=_
     rw[Ch.heap _ (hm.lt cr nv) fun⟨s,x,h1,h2,h3,h4⟩=>jT (by rw[<-hm.inj s r x row h1 cr h2 nv h4];exact h3)]
     exact ha
 refine⟨Da,⟨λr x jL=>?_,λr s x y hr hs v1 v2 he=>?_,λb iL=>⟨(hx.mem.fk b iL).1,λr x hr v=>?_⟩,hx.mem.top,hx.mem.kX⟩,rb,Ch.mono λb _ ⟨r,x,h1,h2,_,h4⟩=>⟨r,x,h1,h2,h4⟩,λb iL=>?_,λr x hr v=>?_⟩
 ·rcases inv r x jL with⟨i,aq,h1,rfl,h3,h4,_⟩|⟨row,h1,rfl,h2,h3,h4⟩
  ·exact YZ Da (flat:=False) (.inl λb hb=>hb) h3 h4 (λ_ _ _ _ _=>trivial) (λe=>e.elim) (hx.mem.row i aq h1)
  ·have hk:=Znr (ks:=ids.drop k) (hm.row r row h1)
   exact ue rb h3 h4 (λnv=>Ch.heap _ (hm.lt h1 nv) fun⟨s,x',g1,g2,g3,g4⟩=>h2 (by rw[<-hm.inj s r x' row g1 h1 g2 nv g4];exact g3)) hk
 ·rcases inv r x hr with⟨i,x',h1,_,h3,h4,h5⟩|⟨row,h1,_,h2,h3,h4⟩<;>rcases inv s y hs with⟨j,y',g1,_,g3,g4,g5⟩|⟨jE,g1,_,g2,g3,g4⟩
  ·have:i=j:=hx.mem.inj i j x' y' h1 g1 (λe=>v1 (h4.2 e)) (λe=>v2 (g4.2 e)) (by rw[<-h3,<-g3];exact he)
   subst this
   rcases h5 with⟨q0,q1,_⟩|⟨_,q1,q2⟩<;>rcases g5 with⟨p0,p1,_⟩|⟨_,p1,p2⟩
   ·rw[q1]at p1;exact Option.some.inj p1
   ·omega
   ·omega
   ·omega
  ·exact(apart s jE i x' g1 g2 (λe=>v2 (g4.2 e)) h1 (λe=>v1 (h4.2 e)) (by rw[<-h3,<-g3];exact he)).elim
  ·exact(apart r row j y' h1 h2 (λe=>v1 (h4.2 e)) g1 (λe=>v2 (g4.2 e)) (by rw[<-h3,<-g3];exact he.symm)).elim
  ·exact hm.inj r s row jE h1 g1 (λe=>v1 (h4.2 e)) (λe=>v2 (g4.2 e)) (by rw[<-h3,<-g3];exact he)
 ·rcases inv r x hr with⟨i,x',h1,_,h3,h4,h5⟩|⟨row,h1,_,h2,h3,h4⟩
  ·rw[h3];exact(hx.mem.fk b iL).2 i x' h1 (λe=>v (h4.2 e))
  ·have nv:¬c.V r:=λe=>v (h4.2 e)
   rw[h3]
   rcases hx.fk b iL with q|⟨s,z,q1,q2,q3,q4⟩|q
   ·rcases q with q|⟨q,_⟩
    ·exact(hm.fk b q).2 r row h1 nv
    ·cases q
   ·intro e
    have hz:dx[s]?=some z:=q2
    have Hr:=(List.getElem?_eq_some_iff.1 hz).1
    have iJ:ids[s]?=some ids[s]:=cG (by omega)
    obtain⟨jE,g1,g2⟩:=AZ s _ iJ
    have:=hm.inj _ r jE row (nX _ _ g1) h1 (by simpa[Ctx.pass,iJ]using q3) nv (by rw[e];simpa[Ctx.pass,iJ]using q4)
    exact h2 (by rw[<-this];exact fX iJ)
   ·have:=hm.lt h1 nv;omega
 ·rcases hx.fk b iL with q|⟨s,z,q1,q2,q3,q4⟩|q
  ·rcases q with q|⟨q,_⟩
   ·exact .inl q
   ·cases q
  ·have hz:dx[s]?=some z:=q2
   have Hr:=(List.getElem?_eq_some_iff.1 hz).1
   have iJ:ids[s]?=some ids[s]:=cG (by omega)
   obtain⟨jE,g1,g2⟩:=AZ s _ iJ
   have hsk:=(Mz.1 q1).1
   exact .inr (.inl ⟨_,jE,ot.2 (sY s _ iJ (by omega)),nX _ _ g1,by simpa[Ctx.pass,iJ]using q3,by simpa[Ctx.pass,iJ]using q4⟩)
  ·exact .inr (.inr q)
 ·rcases inv r x hr with⟨i,x',h1,_,h3,h4,h5⟩|⟨row,h1,_,h2,h3,h4⟩
  ·rcases h5 with⟨q0,q1,q2,q3⟩|⟨q0,q1,q2⟩
   ·obtain⟨row,g1,_⟩:=jG i r x' q0 q1 h1
    exact .inl ⟨⟨row,g1⟩,λe=>v (q3.2 e),q2⟩
   ·rcases GH i x' h1 (λe=>v (h4.2 e))with⟨j,s,jE,p1,p2,p3,p4,_,p5⟩|p
    ·exact .inr (.inl ⟨s,jE,ot.2 (p5 q1),p2,p3,by rw[h3];exact p4⟩)
    ·exact .inr (.inr (by rw[h3];exact p))
  ·exact .inl ⟨⟨row,h1⟩,λe=>v (h4.2 e),h3⟩
def Hs(P:Program)(f:FuncId)(args:List Operand)(ev:Operand->D)(R:Rows)(ks:List Nat)(val:D)(R':Rows):Prop:=
 ∀ (c:Ctx) (w:World) (ρ:Operand->Value),Mem c w->c.base<=w.heap.size->(∀r,c.R r=R.getD r none)->(∀y∈args,Rep c w (ev y) (ρ y))->
  ∀K':Value->World->Prop,(∀v w' c',jM ks c w c' w'->(∀r,c'.R r=R'.getD r none)->Rep c' w' val v->K' v w')->Gz P c.I f (args.map ρ) w λe w'=>∃v,e=.returned v/\K' v w'
theorem Wo{P:Program}{G:List bb}{M:Nat}(hG:j5 P G){f:FuncId}{k:Nat}{args:List Operand}{ev:Operand->D}{R:Rows}{K:List Nat->D->Rows->Prop}
 (lW:pf G f=some k) (h:Iu G M f k (args.map ev) R K):∃ks val R' x,K ks val R'/\oU G f=some x/\(x.refs≠[])/\(∀j,cf j ks=true->M<=j)/\Hs P f args ev R ks val R':=by
 unfold Iu at h
 split at h
 ·rename_i x hx
  have wG:x.gone=some k:=by simpa[pf,hx]using lW
  obtain⟨dw,hf⟩:=Gk hG hx
  split at h
  ·rename_i az dx has iZ
   simp only[c9,aE]at h
   obtain⟨⟨⟨⟨hv,nq⟩,h1,h2⟩,h3,h4⟩,h⟩:=h
   generalize JK:mC R x.refs (args.map ev)=ids at*
   have uU:=MA.1 h1
   have gz:=MA.1 h2
   have ly:=MB.1 h3
   have Ht:lS x.refs (args.map ev)=[]:=by
    revert hv
    cases lS x.refs (args.map ev)<;>simp
   have hrefs:x.refs≠[]:=λe=>by rw[e]at nq;simp at nq
   have main:∀res ak,Hu R (ids.take k) (ids.drop k) res ak K->sN P x.f k az dx res ak->
    ∃ks val R' y,K ks val R'/\oU G f=some y/\(y.refs≠[])/\(∀j,cf j ks=true->M<=j)/\Hs P f args ev R ks val R':=by
    intro res ak hK hA
    simp only[Hu,c9,D.cv,nm]at hK
    obtain⟨hle,hK⟩:=hK
    have hle:=lE hle
    refine⟨_,_,_,x,hK,hx,hrefs,λj hj=>lE (List.all_eq_true.1 h4 j (ot.1 hj)),λc w ρ hm hb hR eu K' rp=>?_⟩
    have nX:∀r row,r∈ids->R.getD r none=some row->c.R r=some row:=λr row _ e=>by rw[hR];exact e
    have pb:mK c R:=λr row aq g1 g2=>by rw[hR,g2]at g1;exact(Option.some.inj g1).symm
    have hn:=UB (len:=false) (w:=w) nX iZ
    have fx:=MC (len:=false) (ρ:=ρ) hm pb hn has (λe=>(e Ht).elim) (λr hr=>by rw[Ht]at hr;cases hr) uU eu
    have mw:=hA _ w _ (Zhq (Y0 (len:=false) hm nX ly gz iZ)) rfl (λr=>rfl) (YU fx)
    rw[hf]at mw
    refine mw.mono (λb hb=>.inl hb) (λe w' sZ=>?_)
    obtain⟨v,c',he,nF,j7,k9⟩:=sZ
    have:=Za2 (k:=k) hm hR ly iZ hle nF j7 rfl
    exact⟨v,he,rp v w' _ this.2 (λr=>rfl) (Y1 this.1 (flat:=False) (.inl λb hb=>hb) (λ_=>trivial) (λe=>e.elim) k9)⟩
   split at h
   ·rename_i α v res ak hm
    exact main _ _ (h v rfl) (dw.P5 k wG _ _ _ _ _ _ hm)
   ·rename_i p α v res ak hm
    exact main _ _ (h.2 v rfl) (dw.Hv k wG _ _ _ _ _ _ _ hm h.1)
   ·exact h.elim
  ·exact h.elim
 ·exact h.elim
theorem Zmk{P:Program}{G:List bb}{M:Nat}(hG:j5 P G){f:FuncId}(hy:f<YB){dst:Option Tmp}{k:Nat}{args:Array Operand}{da:Array TypeId}{type:TypeId}{pos':String}{after:Array Edge}{guard:Option (Nat×Bool)}{ev:Operand->D}{R:Rows}{K:List Nat->D->Rows->Prop}
 (lW:pf G f=some k) (h:Iu G M f k (args.toList.map ev) R K):∃ks val R' x,K ks val R'/\oU G f=some x/\(x.refs≠[])/\(∀j,cf j ks=true->M<=j)/\BX P ⟨dst,.call ⟨.value (.func f),args,da⟩,type,pos',after,guard⟩ ev R ks val R':=by
 obtain⟨ks,val,R',x,h1,h2,h3,h4,h5⟩:=Wo hG lW h
 obtain⟨dw,hf⟩:=Gk hG h2
 refine⟨ks,val,R',x,h1,h2,h3,h4,λc w a hm hb hR eu K' Q rp=>?_⟩
 subst hf
 exact Y2 dw rfl hy ((h5 c w a.eval hm hb hR (λy hy=>eu y (by simp[Op.operands,Call.operands];exact .inr (by simpa using hy))) (λv w'=>K' (a.put dst v) w') λv w' c'=>rp v w' c').1 hy)
def Ctx.only(c:Ctx)(ks:List Nat):Ctx:={c with R:=λr=>if cf r ks=true then(match c.R r with|some row=>if row.box=true then none else some row|none=>none)else none}
theorem MD{c:Ctx}{ks:List Nat}{r:Nat}{x:Row}(h:(c.only ks).R r=some x):r∈ks/\c.R r=some x/\x.box=false:=by
 simp only[Ctx.only]at h
 split at h
 ·rename_i hm
  split at h
  ·rename_i row hr
   split at h
   ·cases h
   ·rename_i hb
    cases h
    exact⟨ot.1 hm,hr,by simpa using hb⟩
  ·cases h
 ·cases h
theorem yr{c:Ctx}{ks:List Nat}{r:Nat}{x:Row}(hm:r∈ks)(hr:c.R r=some x)(hb:x.box=false):(c.only ks).R r=some x:=by
 simp[Ctx.only,ot.2 hm,hr,hb]
theorem xN{c:Ctx}{w:World}(hm:Mem c w)(ks:List Nat):Mem (c.only ks) w:=by
 refine⟨λr x hr=>?_,λr s x y hr hs=>?_,λb hb=>⟨(hm.fk b hb).1,λr x hr v=>?_⟩,hm.top,hm.kX⟩
 ·obtain⟨_,h1,h2⟩:=MD hr
  rcases hm.row r x h1 with h|⟨h0,arr,ha,hs,hx⟩
  ·exact .inl h
  ·refine .inr ⟨h0,arr,ha,hs,?_⟩
   rw[if_neg (by rw[h2];simp)]at hx⊢
   exact hx
 ·exact hm.inj r s x y (MD hr).2.1 (MD hs).2.1
 ·exact(hm.fk b hb).2 r x (MD hr).2.1 v
theorem Zgb{c:Ctx}{w:World}{R:Rows}{ks:List Nat}{d d':D}{v:Value}(h:FQ R d=some d')(hl:∀r∈nP d,r∈ks)(hr:cz c w d v):cz (c.only ks) w d v:=by
 cases d<;>simp only[FQ]at h<;>try(cases h;done)
 case all r=>
  obtain⟨row,g1,g2,g3⟩:=hr
  exact⟨row,yr (hl r (by simp[nP])) g1 g2,g2,g3⟩
 case own r o n=>
  obtain⟨row,g1,g2,g3,g4⟩:=hr
  exact⟨row,yr (hl r (by simp[nP])) g1 g2,g2,g3,g4⟩
 all_goals exact hr
theorem Zif{c:Ctx}{w:World}{R:Rows}{ks:List Nat}:∀{ds ou:List D} {vs:List Value},JL R ds=some ou->(∀r∈re ds,r∈ks)->jt c w ds vs->jt (c.only ks) w ds vs
 |[],_,[],_,_,_=>trivial
 |d ::ds,ou,v::vs,h,hl,hr=>by
  simp only[JL]at h
  split at h
  ·rename_i x xs h1 h2
   exact⟨Zgb h1 (λr e=>hl r (by simp[re,e])) hr.1,Zif h2 (λr e=>hl r (by simp[re,e])) hr.2⟩
  ·cases h
 |[],_,_::_,_,_,h=>h.elim
 |_::_,_,[],_,_,h=>h.elim
theorem zN{c:Ctx}{w:World}{R:Rows}{ks:List Nat}{d d':D}{v:Value}(h:conv R d=some d')(hl:∀r∈FR d,r∈ks)(hr:Rep c w d v):Rep (c.only ks) w d v:=by
 cases d with
 |agg cs=>
  simp only[conv,fR]at h
  obtain⟨xs,h1,_⟩:=h
  obtain⟨vs,hv,hx⟩:=hr
  exact⟨vs,hv,Zif h1 hl hx⟩
 |dt ds=>simp[conv,FQ]at h
 |dead=>trivial
 |_=>
  simp only[conv]at h
  simp only[Rep,VRep]at hr⊢
  exact Zgb h hl hr
theorem Z94{R:Rows}{f:Nat->Nat}{ev:Operand->D}:∀{xs:List Operand} {az:List D},s7 R f [] (xs.map ev)=some az->∀x∈xs,∃y,conv R (ev x)=some y
 |[],_,_,x,hx=>by simp at hx
 |y ::xs,az,h,x,hx=>by
  simp only[fS,s7]at h
  split at h
  ·rename_i z zs h1 h2
   simp only[cR]at hx
   rcases hx with rfl|hx
   ·exact⟨_,h1⟩
   ·exact Z94 h2 x hx
  ·cases h
theorem Z9{ev:Operand->D}{r:Nat}:∀{xs:List Operand} {x:Operand},x∈xs->r∈FR (ev x)->r∈lS [] (xs.map ev)
 |y::xs,x,hx,hr=>by
  simp only[fS,lS,bX]
  simp only[cR]at hx
  rcases hx with rfl|hx
  ·exact .inl hr
  ·exact .inr (Z9 hx hr)
theorem Y3{r:Nat}:∀{l ids:List Nat},r∈lP ids l->r∈ids\/r∈l
 |[],ids,h=>.inl h
 |x ::l,ids,h=>by
  simp only[lP]at h
  split at h
  ·rcases Y3 h with h|h
   ·exact .inl h
   ·exact .inr (by simp[h])
  ·rcases Y3 h with h|h
   ·simp only[bX,List.mem_singleton]at h
    rcases h with h|h
    ·exact .inl h
    ·exact .inr (by simp[h])
   ·exact .inr (by simp[h])
theorem vr{c:Ctx}{w:World}{d:D}{v:Value}(h:Rep c w d v):Rep {c with base:=0} w d v:=by
 cases d with
 |dt ds=>obtain⟨vs,hv,hx⟩:=h;exact⟨vs,hv,YU hx⟩
 |dead=>trivial
 |_=>exact Rep.KF (Za (Rep.toV (λds e=>by cases e) (λe=>by cases e) h))
theorem yN{P:Program}{G:List bb}{M:Nat}(hG:j5 P G){dst:Option Tmp}{f:FuncId}{args:Array Operand}{da:Array TypeId}{type:TypeId}{pos':String}{after:Array Edge}{guard:Option (Nat×Bool)}{ev:Operand->D}{R:Rows}{K:List Nat->D->Rows->Prop}
 (lW:pf G f=none) (h:Db G M f (args.toList.map ev) R K):∃ks val R' x,K ks val R'/\oU G f=some x/\(∀j,cf j ks=true->M<=j)/\BX P ⟨dst,.call ⟨.value (.func f),args,da⟩,type,pos',after,guard⟩ ev R ks val R':=by
 unfold Db at h
 split at h
 ·rename_i x hx
  have wG:x.gone=none:=by simpa[pf,hx]using lW
  obtain⟨dw,hf⟩:=Gk hG hx
  split at h
  ·rename_i az dx has iZ
   simp only[c9,aE]at h
   obtain⟨⟨⟨nq,w6⟩,h3,uU,h4⟩,h⟩:=h
   have Jax:∀r,r∈lP [] (lS [] (args.toList.map ev))->r∈lS [] (args.toList.map ev):=λr hr=>by
    rcases Y3 hr with h|h
    ·cases h
    ·exact h
   generalize JK:lP [] (lS [] (args.toList.map ev))=ids at*
   have ly:=MB.1 h3
   have uU:=MA.1 uU
   have main :∀res ak,Hu R [] ids res ak K->kq P x.f az [] res ak->
    ∃ks val R' y,K ks val R'/\oU G f=some y/\(∀j,cf j ks=true->M<=j)/\BX P ⟨dst,.call ⟨.value (.func f),args,da⟩,type,pos',after,guard⟩ ev R ks val R':=by
    intro res ak hK hA
    simp only[Hu,c9,D.cv,nm]at hK
    obtain⟨_,hK⟩:=hK
    refine⟨_,_,_,x,hK,hx,λj hj=>lE (List.all_eq_true.1 h4 j (ot.1 hj)),λc w a hm hb hR eu K' Q rp=>?_⟩
    have pb:mK (c.only ids) R:=λr row aq g1 g2=>by
     have:=(MD g1).2.1
     rw[hR,g2]at this;exact(Option.some.inj this).symm
    have hmo:=xN hm ids
    have hn:=UB (c:=c.only ids) (R:=R) (ids:=[]) (dx:=[]) (len:=true) (w:=w) (λr row e=>by cases e) rfl
    have Y4:∀y∈args.toList,Rep (c.only ids) w (ev y) (a.eval y):=λy hy=>by
     obtain⟨z,hz⟩:=Z94 has y hy
     exact zN hz (λr hr=>uU r (Z9 hy hr)) (eu y (by simp[Op.operands,Call.operands];exact .inr (by simpa using hy)))
    rw[Y5 (λr=>r) (λr=>pos r [] 0)]at has
    have fx:=MC (len:=true) (ρ:=a.eval) hmo pb hn has (λ_=>rfl) (λr _ e=>by cases e) (λr e=>by rw[Y6]at e;cases e) Y4
    have mw:=hA _ w _ (Y0 (R:=R) (len:=true) hmo (λr row e=>by cases e) (by simp) (λr e=>by simp[Dc]at e) rfl) rfl (λr=>rfl) fx
    refine Y2 dw hf (dw.real wG) (mw.mono λe w' sZ=>?_)
    obtain⟨v,c',he,nF,j7,k9⟩:=sZ
    have GA:∀r x,((c.only ids).pass w [] [] true).R r=some x->False:=λr x h=>by simp[Ctx.pass]at h
    obtain⟨gz,AZ⟩:=FP iZ
    have hxK:jM (bK 0 (dx.length-0)) {c.pass w ids dx false with base:=0} w {c' with base:=0} w':=by
     refine⟨Zhq nF.mem,⟨rfl,nF.cj.top,λb iL=>?_,λr x hr=>?_⟩,nF.fr.mono λb _ ⟨r,x,h1,_⟩=>(GA r x h1).elim,λb iL=>?_,λr x hr hv=>?_⟩
     ·have:c.I b:=by
       rcases iL with h|⟨h,_⟩
       ·exact h
       ·cases h
      exact⟨(nF.cj.I b (.inl this)).1,(nF.cj.I b (.inl this)).2⟩
     ·obtain⟨h1,row,h2,_⟩:=om hr
      have By:dx[r]?=some row:=h2
      have:=(List.getElem?_eq_some_iff.1 By).1
      rw[Mz.2 (by omega)]at h1;cases h1
     ·rcases nF.fk b iL with h|h
      ·rcases h with h|⟨_,r,row,g1,g2,g3,_,g5⟩
       ·exact .inl (.inl h)
       ·obtain⟨k1,k2,k3⟩:=MD g1
        have hp:=BB k1
        obtain⟨jE,q1,q2⟩:=AZ _ r hp
        have hl:=(List.getElem?_eq_some_iff.1 q2).1
        exact .inr (.inl ⟨_,_,Mz.2 (by omega),q2,by simpa[Ctx.pass,Ctx.only,hp]using g2,by simpa[Ctx.pass,Ctx.only,hp]using g5⟩)
      ·exact .inr (.inr h)
     ·rcases nF.oj r x hr hv with⟨⟨y,h1⟩,_⟩|h
      ·exact(GA r y h1).elim
      ·exact .inr (.inr h)
    have:=Za2 (k:=0) (c':={c' with base:=0}) hm hR ly iZ (by simp) hxK j7 rfl
    simp only[List.take_zero,List.drop_zero]at this
    exact⟨v,he,rp v w' _ this.2 (λr=>rfl) (Y1 this.1 (flat:=False) (.inl λb hb=>hb) (λ_=>trivial) (λe=>e.elim) (vr k9))⟩
   split at h
   ·rename_i α v res ak hm
    exact main _ _ (h v rfl) (dw.abs wG _ _ _ _ _ _ hm).1
   ·rename_i p α v res ak hm
    exact main _ _ (h.2 v rfl) (dw.lT wG _ _ _ _ _ _ _ hm h.1).1
   ·exact h.elim
  ·exact h.elim
 ·exact h.elim
