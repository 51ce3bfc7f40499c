import Derived.Test.YtaemmjbkndlkeaaGreatMigrateTellsFo
import Derived.Laws.Append
import Derived.Laws.CopyRow
import Derived.Laws.AppendOwn
open List renaming eq_nil_of_length_eq_zero->fV,map_cons->fX,append_assoc->aM,getElem?_take->aF,getElem?_drop->fZ,getElem?_toArray->bH,getD->aV,length_take->aD,length_drop->aG,getElem?_append_left->bI,size_toArray->aK,getElem?_append_right->bJ,getElem?_eq_none->aJ,take_of_length_le->fQ,getElem?_eq_getElem->aI,range'->bO,mem_of_getElem?->gC,mem_of_mem_take->gD,mem_of_mem_drop->gE,mem_cons->cQ,mem_append->cB
open Bool renaming false_eq_true->aA
open Option renaming map_eq_some_iff->fW
open Nat renaming add_zero->aB,succ_mul->bF,mul_le_mul_right->bD,zero_add->bG,mul_comm->gA,le_refl->aX,add_mul->bK,le_trans->bL,le_mul_of_pos_right->gB
open Array renaming ext'->fY
set_option linter.all false
namespace Go.GD
open Go
variable {G:List bd}{I:ab}{K:List Nat->D->Rows->Prop}{M k n r sy sz:Nat}{P:Program}{R:Rows}{after:Array Edge}{args:Array Operand}{arr:Array Value}{d d' y:D}{dst:Option Tmp}{ev:Operand->D}{f:FuncId}{i:TypeInfo}{ks:List Nat}{pos':String}{row x:Row}{t tx ty type:TypeId}{dh:Array TypeId}{ux:TypeDesc}{v z:Value}{w w':World}{ys:ag}
section
variable {c:Ctx} {w:World} {ks:List Nat}
theorem wZ(ks:List Nat)(row:Row):(row.kill ks).box=row.box/\(row.kill ks).ty=row.ty/\(row.kill ks).sz=row.sz/\(row.kill ks).es.l.length=row.es.l.length:=by
 unfold Row.kill;split<;>exact⟨rfl,rfl,rfl,rfl⟩
theorem Z69:∀{e:List D},(D.jE ks e).length=e.length
 |[]=>rfl
 |d::l=>by simp[D.jE,Z69 (e:=l)]
theorem Zii(ia:∀f cs,d≠.gv f cs)(h:dc c w d v):dc (c.kill ks) w (d.fg ks) v:=by
 have key:∀r row,da r ks=false->c.R r=some row->(c.kill ks).R r=some (row.kill ks):=λr row hr c6=>by simp[Ctx.kill,hr,c6]
 have h1:=dc.one h
 cases d with
 |all r=>
  simp only[D.fg]
  cases hr:da r ks with
  |true=>exact h1
  |false=>
   obtain⟨row,g1,g2,g3⟩:=h
   obtain⟨s1,s2,s3,s4⟩:=wZ ks row
   exact⟨_,key r row hr g1,s1.trans g2,by rw[s2,s3,s4];exact g3⟩
 |own r o n=>
  simp only[D.fg]
  cases hr:da r ks with
  |true=>exact h1
  |false=>
   obtain⟨row,g1,g2,g3,g4⟩:=h
   obtain⟨s1,s2,s3,s4⟩:=wZ ks row
   exact⟨_,key r row hr g1,s1.trans g2,by rw[s4];exact g3,by rw[s2,s3];exact g4⟩
 |ptr r i off=>
  simp only[D.fg]
  cases hr:da r ks with
  |true=>exact h1
  |false=>
   obtain⟨row,g1,g2,g3,g4⟩:=h
   obtain⟨s1,s2,s3,s4⟩:=wZ ks row
   exact⟨_,key r row hr g1,g2,by rw[s4];exact g3,by rw[s3];exact g4⟩
 |pa r i off len k n=>
  simp only[D.fg]
  cases hr:da r ks with
  |true=>exact h1
  |false=>
   obtain⟨g0,row,g1,g2,g3,g4⟩:=h
   obtain⟨s1,s2,s3,s4⟩:=wZ ks row
   exact⟨g0,_,key r row hr g1,g2,by rw[s4];exact g3,by rw[s3];exact g4⟩
 |gw r=>
  simp only[D.fg]
  cases hr:da r ks with
  |true=>exact h1
  |false=>
   rcases h with h|⟨row,g1,g2,g3,g4⟩
   ·exact .inl h
   ·obtain⟨s1,s2,s3,s4⟩:=wZ ks row
    exact .inr ⟨_,key r row hr g1,g2,by rw[s4];exact g3,by rw[s3];exact g4⟩
 |gv f cs=>exact absurd rfl (ia f cs)
 |_=>exact h
theorem zv(ia:∀f cs,d≠.gv f cs)(h:∀r∈ou d,da r ks=false):d.fg ks=d:=by
 cases d<;>first|rfl|(simp only[D.fg];rw[h _ (by simp[ou])])|exact absurd rfl (ia _ _)
theorem UL(h:dc c w d v):dc (c.kill ks) w (d.fg ks) v:=by
 by_cases e:∃g cs,d=.gv g cs
 ·obtain⟨g,cs,rfl⟩:=e
  have h1:=dc.one h
  simp only[D.fg]
  cases hd:rb (r9 cs) ks with
  |false=>exact h1
  |true=>
   obtain⟨us,hv,hu⟩:=h
   exact⟨us,hv,Zdl (c:=c) (w:=w) (c':=c.kill ks) (w':=w) (S:=λr=>da r ks=false) (λd v q1 q2 q3=>by have:=Zii (ks:=ks) q1 q3;rwa [zv q1 q2]at this) (λ_ hb=>⟨hb,rfl⟩) (λr hr=>by
    have:=Ww.1 hd r hr
    cases hm:da r ks with
    |false=>rfl
    |true=>exact(this (oy.1 hm)).elim) hu⟩
 ·exact Zii (λf cs e'=>e ⟨f,cs,e'⟩) h
theorem Zo2:∀{ds:List D} {vs:List Value},jG c w ds vs->jG (c.kill ks) w (D.jE ks ds) vs
 |[],[],_=>trivial
 |_::_,_::_,h=>⟨UL h.1,Zo2 h.2⟩
 |[],_::_,h=>h.elim
 |_::_,[],h=>h.elim
theorem Zut(h:VRep c w d v):VRep (c.kill ks) w (d.kill ks) v:=by
 cases d with
 |agg cs=>obtain⟨vs,hv,hr⟩:=h;exact⟨vs,hv,Zo2 hr⟩
 |_=>
  have:=UL (ks:=ks) (VRep.toC (λcs e=>by cases e) h)
  exact VRep.Fs this
theorem Zqu:∀{ds:List D} {vs:List Value},kJ c w ds vs->kJ (c.kill ks) w (D.rD ks ds) vs
 |[],[],_=>trivial
 |_::_,_::_,h=>⟨Zut h.1,Zqu h.2⟩
 |[],_::_,h=>h.elim
 |_::_,[],h=>h.elim
theorem YC(h:Rep c w d v):Rep (c.kill ks) w (d.ko ks) v:=by
 cases d with
 |dw ds=>obtain⟨vs,hv,hr⟩:=h;exact⟨vs,hv,Zqu hr⟩
 |dead=>trivial
 |_=>
  have:=Zut (ks:=ks) (Rep.toV (λds e=>by cases e) (λe=>by cases e) h)
  exact Rep.LB this
theorem Zhf:∀{ds:List D} {arr:Array Value} {off:Nat},lg c w ds arr off->lg (c.kill ks) w (D.jE ks ds) arr off
 |[],_,_,_=>trivial
 |_::_,_,_,⟨⟨v,hv,h1⟩,h2⟩=>⟨⟨v,hv,UL h1⟩,Zhf h2⟩
theorem Zv4(h:Fv c w r row):Fv (c.kill ks) w r (row.kill ks):=by
 obtain⟨s1,s2,s3,s4⟩:=wZ ks row
 rcases h with⟨h0,h1,h2,h3⟩|⟨h0,arr,ha,hs,hx⟩
 ·refine .inl ⟨h0,s1.trans h1,?_,by rw[s3];exact h3⟩
  rw[h2]at s4;exact fV s4
 ·refine .inr ⟨h0,arr,by rw[s2];exact ha,by rw[s3];exact hs,?_⟩
  rw[s1,s3]
  split
  ·rename_i hb
   simp only[hb,if_true]at hx
   obtain⟨e,k1,k2,k3,k4⟩:=hx
   obtain⟨box,ty,sz,es⟩:=row
   simp only at hb k1 k2 k3 k4
   subst hb;subst k1
   exact⟨D.jE ks e,rfl,by rw[Z69];exact k2,k3,Zhf k4⟩
  ·rename_i hb
   simp only[hb,aA,if_false]at hx
   have he:(row.kill ks).es=row.es:=by
    unfold Row.kill
    split
    ·simp at hb
    ·rfl
   rw[he];exact hx
theorem nK(h:(c.kill ks).R r=some x):da r ks=false/\∃row,c.R r=some row/\x=row.kill ks:=by
 simp only[Ctx.kill]at h
 cases hb:da r ks with
 |true=>rw[hb]at h;simp at h
 |false=>
  rw[hb]at h
  simp only[aA,if_false,fW]at h
  obtain⟨row,h1,h2⟩:=h
  exact⟨rfl,row,h1,h2.symm⟩
theorem Up(hm:Mem c w):Mem (c.kill ks) w:=by
 refine⟨λr x hx=>?_,λr s x y hx hy v1 v2 he=>?_,λb hb=>⟨(hm.fk b hb).1,λr x hx v=>?_⟩,hm.top,hm.kb⟩
 ·obtain⟨_,row,h1,rfl⟩:=nK hx
  exact Zv4 (hm.row r row h1)
 ·obtain⟨_,row,h1,_⟩:=nK hx
  obtain⟨_,aq,h2,_⟩:=nK hy
  exact hm.inj r s row aq h1 h2 v1 v2 he
 ·obtain⟨_,row,h1,_⟩:=nK hx
  exact(hm.fk b hb).2 r row h1 v
end
theorem Zve:∀{l:List Nat},rb l []=true
 |[]=>rfl
 |x::l=>by simp only[rb,da];exact Zve
theorem Yz(d:D):d.fg []=d:=by
 cases d with
 |gv f cs=>simp only[D.fg,Zve]
 |_=>rfl
theorem Yy:∀{ds:List D},D.jE [] ds=ds
 |[]=>rfl
 |d::l=>by simp only[D.jE,Yz,Yy (ds:=l)]
theorem Zb9(row:Row):row.kill []=row:=by
 unfold Row.kill;split
 ·simp[Yy]
 ·rfl
theorem vU(c:Ctx):c.kill []=c:=by
 obtain⟨ρ,R,V,I,base,top,X⟩:=c
 simp only[Ctx.kill,da,aA,if_false]
 congr 1
 funext r
 cases R r<;>simp[Zb9]
theorem mn.toK{c c':Ctx}(h:mn c w c' w'):j6 [] c w c' w':=
 ⟨h.mem,by rw[vU];exact h.cz,h.fr,λb hb=>(h.fk b hb).imp id .inr,λr aq h1 h2=>(h.oO r aq h1 h2).imp id .inr⟩
theorem Sk{ks:List Nat}:∀{R:Rows} {i r:Nat},(Qu ks R i).getD r none=if da (i+r) ks=true then none else(R.getD r none).map (Row.kill ks)
 |[],i,r=>by simp[Qu]
 |x::l,i,0=>by
  simp only[Qu,aB]
  cases da i ks<;>cases x<;>simp
 |x::l,i,r+1=>by
  have:=Sk (ks:=ks) (R:=l) (i:=i+1) (r:=r)
  rw[show i+1+r=i+(r+1) by omega]at this
  simpa[Qu]using this
theorem Kw{ks:List Nat}:∀{R:Rows} {i:Nat},(Qu ks R i).length=R.length
 |[],_=>rfl
 |x::l,i=>by simp[Qu,Kw (R:=l)]
def sL(ks:List Nat)(env:List (Nat×D)):List (Nat×D):=env.map λx=>(x.1,x.2.ko ks)
theorem Je{ks:List Nat}:∀{env:List (Nat×D)} {K:List (Nat×D)->Prop},Hj ks env K↔K (sL ks env)
 |[],_=>Iff.rfl
 |(t,d)::l,K=>by
  simp only[Hj,D.c7]
  rw[Je (env:=l) (K:=λl=>K ((t,d.ko ks)::l))]
  rfl
theorem CD{ks:List Nat}:∀{env:List (Nat×D)} {t:Nat},look (sL ks env) t=(look env t).ko ks
 |[],_=>rfl
 |(u,d)::l,t=>by
  simp only[sL,fX,look]
  cases Nat.beq u t with
  |true=>rfl
  |false=>exact CD (env:=l)
theorem Qt7(w:World){t tx ty e:TypeId}(ht:P.underlying t=some (.slice e))(re:P.underlying tx=some ux)(hx:∀k,ux≠.int k)(hi:P.info? e=some i)
 {a:Option Addr} {n cap m:Nat} {x:Value} {news:List Value} (hl:(Builtin.lenOf x).run P w=.ok m w) (hf:(Builtin.firstCells i.size m x).run P w=.ok news.toArray w) (lq:n+m<=cap) {w':World}
 (kj:∀b,a=some b->(storeCells (b.add (n*i.size)) news).run P w=.ok () w') (nJ:a=none->w'=w):
 (Builtin.append_ #[t,tx] ty #[.slice a n cap,x]).run P w=.ok (.slice a (n+m) cap) w':=by
 have hz:(match ux with|.int _=>true|_=>false)=false:=by
  cases ux<;>first|rfl|exact absurd rfl (hx _)
 cases a with
 |none=>
  have:=nJ rfl
  subst this
  simp[Builtin.append_,run_underlying ht,run_underlying re,hz,sizeOf,typeInfo,hi,hl,lq,hf]
 |some b=>simp[Builtin.append_,run_underlying ht,run_underlying re,hz,sizeOf,typeInfo,hi,hl,lq,hf,kj b rfl]
theorem Qtc(w:World){t tx ty e:TypeId}(ht:P.underlying t=some (.slice e))(re:P.underlying tx=some ux)(hx:∀k,ux≠.int k)(hi:P.info? e=some i)(hz:i.zero=some z)
 {a:Option Addr} {n cap m:Nat} {x:Value} {ly news:List Value} (hl:(Builtin.lenOf x).run P w=.ok m w) (hf:(Builtin.firstCells i.size m x).run P w.drew=.ok news.toArray w.drew) (hfo:(Builtin.firstCells i.size n (.slice a n cap)).run P w.drew=.ok ly.toArray w.drew)
 (hg:cap<n+m) (h63:((n+m:Nat):Int)<=9223372036854775807) (nq:Builtin.nextslicecap (n+m) cap*i.bytes<=281474976710656):
 (Builtin.append_ #[t,tx] ty #[.slice a n cap,x]).run P w=.ok (.slice (some ⟨w.heap.size,0,none⟩) (n+m) (grownCap w (n+m) cap e))
  (w.drew.alloc (.cells (ly.toArray++news.toArray++Builtin.zeroCells z.cells (grownCap w (n+m) cap e-(n+m))) e)):=by
 have hn:¬(n+m<=cap):=by omega
 have Jah:¬(9223372036854775807<((n:Int)+(m:Int))):=by omega
 have Jai:¬(281474976710656<Builtin.nextslicecap (n+m) cap*i.bytes):=by omega
 simp[Builtin.append_,run_underlying ht,run_underlying re,sizeOf,typeInfo,zeroValue,hi,hz,hl,hn,Jah,Jai,Question.forced,hf,hfo,newRow,grownCap]
 congr 2
 apply fY
 simp[aM]
theorem yv{b o:Nat}{fz:Nat×Nat}(h:w.heap[b]?=some (.cells arr ty fz))(j:Nat):w.cell? ((⟨b,o,none⟩:Addr).add j)=arr[o+j]? :=by
 rw[Gm]
 unfold World.cell?
 simp[h]
theorem Uq{es:List (List D)}{off sz:Nat}(h:im I w es arr off sz)(h0:0<sz):∃news:List Value,news.length=es.length*sz/\(∀j u,news[j]?=some u->arr[off+j]?=some u)/\im I w es news.toArray 0 sz:=by
 have ga:es.length*sz<=arr.size-off:=by
  by_cases he:es.length=0
  ·rw[he];omega
  ·obtain⟨h1,h2⟩:=Q4.1 h (es.length-1) (by omega)
   obtain⟨v,hv,_⟩:=uN.1 h2 (sz-1) (by omega)
   have bc:=(Array.getElem?_eq_some_iff.1 hv).1
   have:es.length*sz=(es.length-1)*sz+sz:=by
    rw[show es.length*sz=(es.length-1+1)*sz by congr 1;omega,bF]
   omega
 refine⟨(arr.toList.drop off).take (es.length*sz),by simp;omega,λj u hj=>?_,?_⟩
 ·rw[aF]at hj
  split at hj
  ·rw[fZ]at hj
   simpa using hj
  ·cases hj
 ·rw[Q4]at h⊢
  intro i hi
  obtain⟨h1,h2⟩:=h i hi
  refine⟨h1,?_⟩
  rw[uN]at h2⊢
  intro j hj
  obtain⟨v,hv,hp⟩:=h2 j hj
  refine⟨v,?_,hp⟩
  have bc:i*sz+j<es.length*sz:=by
   have:=bD sz (show i+1<=es.length by omega)
   rw[bF]at this
   omega
  simp only[bG,bH]
  rw[aF,if_pos bc,fZ,<-hv]
  simp[Nat.add_assoc]
theorem im.one{es:List (List D)}{news:List Value}(h:im I w es news.toArray 0 sz)(hl:news.length=es.length*sz):∀u∈news,u.oneCell'=true:=by
 intro u hu
 obtain⟨j,hj⟩:=List.getElem?_of_mem hu
 have bc:=(List.getElem?_eq_some_iff.1 hj).1
 have h0:0<sz:=by
  rcases Nat.eq_zero_or_pos sz with h0|h0
  ·subst h0;simp at hl;rw[hl]at bc;simp at bc
  ·exact h0
 have hi:j/sz<es.length:=by rw[Nat.div_lt_iff_lt_mul h0];omega
 obtain⟨h1,h2⟩:=Q4.1 h (j/sz) hi
 obtain⟨v,hv,hp⟩:=uN.1 h2 (j%sz) (by rw[h1];exact Nat.mod_lt _ h0)
 have e:0+j/sz*sz+j%sz=j:=by rw[bG,gA];exact Nat.div_add_mod j sz
 rw[e,bH,hj]at hv
 cases hv
 exact gh.one hp
theorem Ztm(s:List UInt8):im I w (ag.ints .u8 (pQ s)).l (s.map λb=>Value.int .u8 b.toNat).toArray 0 1:=by
 rw[Q4]
 intro i hi
 have iT:i<s.length:=by simpa[pQ,ag.l]using hi
 have he:(ag.ints .u8 (pQ s)).l.getD i []=[.int .u8 s[i].toNat]:=by simp[pQ,ag.l,aV,iT]
 rw[he]
 refine⟨rfl,?_⟩
 simp only[EA,EB,sR,sS,sU,sV,sW,sX,uo,Q9,uP,uQ,uR,uS,uT,uU,uV,uW,and_true]
 exact⟨_,by simp[iT],rfl⟩
def Src(P:Program)(c:Ctx)(w:World)(v:Value)(ys:List (List D))(sz:Nat):Prop:=
 ∃news:List Value,news.length=ys.length*sz/\(Builtin.lenOf v).run P w=.ok ys.length w/\(∀k,k<=ys.length->∀w',w'.heap=w.heap->(Builtin.firstCells sz k v).run P w'=.ok (news.take (k*sz)).toArray w')/\im c.I w ys news.toArray 0 sz
theorem Kx{c:Ctx}(h0:0<sz){es:List (List D)}{a:Option Addr}{cap:Nat}(gz:es=[]\/sy=sz/\∃b off arr ty fz,a=some ⟨b,off,none⟩/\w.heap[b]?=some (.cells arr ty fz)/\im c.I w es arr off sy):
 Src P c w (.slice a es.length cap) es sz:=by
 rcases gz with gz|⟨hss,b,off,arr,ty,fz,ha,hh,hE⟩
 ·subst gz
  refine⟨[],by simp,by simp[Builtin.lenOf],λk hk w' _=>?_,by simp[rV,rF]⟩
  have AS:k=0:=by simpa using hk
  subst AS
  cases a with
  |none=>simp[Builtin.firstCells]
  |some a=>
   have:=run_firstCells_some (P:=P) w' sz 0 a 0 cap [] (by simp) (λj v h=>by simp at h)
   simpa using this
 ·subst hss
  obtain⟨news,g1,g2,g3⟩:=Uq hE h0
  refine⟨news,g1,by simp[Builtin.lenOf],λk hk w' hw'=>?_,g3⟩
  subst ha
  refine run_firstCells_some (P:=P) w' sy k ⟨b,off,none⟩ _ cap (news.take (k*sy)) ?_ λj u hj=>?_
  ·have:=bD sy hk
   simp;omega
  ·rw[yv (by rw[hw'];exact hh)]
   rw[aF]at hj
   split at hj
   ·exact g2 j u hj
   ·cases hj
theorem zad{c:Ctx}(h0:0<sz)(h:sY R y=some (sy,ys))(hs:sy=sz\/ys.l=[])(hm:Mem c w)(hA:mN c R)(hr:Rep c w y v):Src P c w v ys.l sz:=by
 cases y<;>simp only[sY]at h<;>try(cases h;done)
 case c8=>cases h;rw[show v=_ from hr];exact Kx (sy:=sz) h0 (es:=[]) (.inl rfl)
 case emp=>cases h;obtain⟨a,hv,_⟩:=hr;rw[hv];exact Kx (sy:=sz) h0 (es:=[]) (.inl rfl)
 case sl s es fr=>
  cases h
  obtain⟨a,cap,hv,hc,gz⟩:=hr
  rw[hv]
  refine Kx (sy:=sy) h0 ?_
  rcases gz with gz|⟨b,off,arr,ty,fz,ha,hI,hf,hh,hE⟩
  ·exact .inl gz
  ·rcases hs with hs|hs
   ·exact .inr ⟨hs,b,off,arr,ty,fz,ha,hh,hE⟩
   ·exact .inl hs
 case all r=>
  split at h
  ·rename_i ty s es hR
   cases h
   obtain⟨row,g1,g2,hv⟩:=hr
   have:=hA r row _ g1 hR
   subst this
   rcases hv with⟨hV,a,hv,_⟩|⟨hV,cap,arr,hv,g3,g4,g5,g6⟩
   ·have he:=(hm.nZ g1 hV).2.1
    simp only at he
    rw[hv,he]
    exact Kx (sy:=sz) h0 (es:=[]) (.inl rfl)
   ·obtain⟨iX,jV,jk,hx⟩:=hm.real g1 hV
    simp only at g5 jV hx hv
    rw[g5]at jV;cases jV
    simp only[aA,if_false]at hx
    rw[hv]
    refine Kx (sy:=sy) h0 ?_
    rcases hs with hs|hs
    ·exact .inr ⟨hs,_,0,arr,_,_,rfl,g5,hx⟩
    ·exact .inl hs
  ·cases h
 case own r o n=>
  split at h
  ·rename_i ty s es hR
   cases h
   obtain⟨row,g1,g2,g5,hv⟩:=hr
   have:=hA r row _ g1 hR
   subst this
   simp only at g5
   have hlen:((es.l.drop o).take n).length=n:=by simp only[aD,aG];omega
   rw[ag.jo,ag.kL]at hs⊢
   rcases hv with⟨g7,a,hv,_⟩|⟨hV,cap,arr,g3,g4,g6,hv,g7⟩
   ·subst g7
    rw[hv]
    have:=Kx (P:=P) (c:=c) (w:=w) (sy:=sz) h0 (es:=(es.l.drop o).take 0) (a:=a) (cap:=0) (.inl (by simp))
    simpa using this
   ·obtain⟨iX,jV,jk,hx⟩:=hm.real g1 hV
    simp only at g6 jV hx hv
    rw[g6]at jV;cases jV
    simp only[aA,if_false]at hx
    have hE:=Nw (n:=n) (Lw (l:=o) hx)
    have:=Kx (P:=P) (c:=c) (w:=w) (sy:=sy) h0 (es:=(es.l.drop o).take n) (a:=some ⟨c.ρ r,o*sy,none⟩) (cap:=cap) (by
     rcases hs with hs|hs
     ·exact .inr ⟨hs,_,o*sy,arr,_,_,rfl,g6,by simpa using hE⟩
     ·exact .inl hs)
    rw[hlen]at this
    rw[hv];exact this
  ·cases h
theorem xad{c:Ctx}{ke kx:TK}(h0:0<sz)(h:Dy R ke kx y=some (sy,ys))(hs:sy=sz\/ys.l=[])(hm:Mem c w)(hA:mN c R)(hr:Rep c w y v):Src P c w v ys.l sz:=by
 unfold Dy at h
 split at h
 ·exact zad h0 h hs hm hA hr
 ·split at h
  ·rename_i s
   cases h
   have hv:=Rep.str.1 hr
   subst hv
   have ga:(ByteArray.mk s.toArray).size=s.length:=by simp[ByteArray.size]
   have ext:∀k,((ByteArray.mk s.toArray).extract 0 k).data.toList=s.take k:=λk=>by
    simp[ByteArray.data_extract]
   have hf:∀k w',(Builtin.firstCells sz k (.string ⟨s.toArray⟩)).run P w'=.ok ((s.map λb=>Value.int .u8 b.toNat).take k).toArray w':=λk w'=>by
    simp only[Builtin.firstCells,Sem.run_pure]
    congr 1
    apply fY
    simp only[Array.toList_map,ext,List.map_take]
   rcases hs with hs|hs
   ·subst hs
    exact⟨s.map λb=>Value.int .u8 b.toNat,by simp[pQ,ag.len],by simp[Builtin.lenOf,pQ,ag.len,ga],λk hk w' _=>by rw[hf];simp,Ztm s⟩
   ·have:s=[]:=by simpa[pQ,ag.l]using hs
    subst this
    exact⟨[],by simp[pQ,ag.len],by simp[Builtin.lenOf,pQ,ag.len,ga],λk hk w' _=>by rw[hf];simp,by simp[pQ,ag.l,rV,rF]⟩
  ·cases h
 ·cases h
def Ctx.jN(c:Ctx)(k:Nat)(row:Row):Ctx:={c with R:=λr=>if r=k then some row else c.R r,V:=λr=>r=k\/c.V r}
theorem UN{c:Ctx}(hk:c.R k=none)(row:Row):ju c w (c.jN k row) w:=by
 refine⟨rfl,aX _,λb hb=>⟨hb,rfl⟩,λr x hr=>?_⟩
 have ia:r≠k:=λe=>by rw[e,hk]at hr;cases hr
 exact⟨x,by simp[Ctx.jN,ia,hr],rfl,rfl,rfl,rfl,rfl,by simp[Ctx.jN,ia],λ_ arr ha=>⟨arr,ha,rfl⟩⟩
theorem YF{c:Ctx}(hm:Mem c w)(hk:c.R k=none)(hb:row.box=false)(he:row.es.l=[])(h0:0<row.sz):Mem (c.jN k row) w:=by
 have hg:=UN (w:=w) hk row
 have inv:∀r x,(c.jN k row).R r=some x->¬(c.jN k row).V r->c.R r=some x/\¬c.V r:=λr x hr hv=>by
  have h1:¬r=k:=λe=>hv (.inl e)
  exact⟨by simpa[Ctx.jN,h1]using hr,λe=>hv (.inr e)⟩
 refine⟨λr x hr=>?_,λr s x y hr hs v1 v2 h=>?_,λb ik=>⟨(hm.fk b ik).1,λr x hr v=>?_⟩,hm.top,hm.kb⟩
 ·by_cases e:r=k
  ·subst e
   simp only[Ctx.jN,if_true,Option.some.injEq]at hr
   subst hr
   exact .inl ⟨.inl rfl,hb,he,h0⟩
  ·have rz:c.R r=some x:=by simpa[Ctx.jN,e]using hr
   exact uf hg rfl (by simp[Ctx.jN,e]) (λ_=>rfl) (hm.row r x rz)
 ·obtain⟨h1,h2⟩:=inv r x hr v1
  obtain⟨h3,h4⟩:=inv s y hs v2
  exact hm.inj r s x y h1 h3 h2 h4 h
 ·obtain⟨h1,h2⟩:=inv r x hr v
  exact(hm.fk b ik).2 r x h1 h2
theorem Lr(c:Ctx)(w:World):ju c w c w.drew:=⟨rfl,aX _,λb hb=>⟨hb,rfl⟩,λr row hr=>⟨row,hr,rfl,rfl,rfl,rfl,rfl,Iff.rfl,λ_ arr ha=>⟨arr,ha,rfl⟩⟩⟩
theorem I4{c:Ctx}(h:Mem c w):Mem c w.drew:=
 ⟨λr row hr=>uf (Lr c w) rfl Iff.rfl (λ_=>rfl) (h.row r row hr),h.inj,h.fk,h.top,h.kb⟩
theorem Ur{es ys:List (List D)}{A B C:List Value}(h1:im I w es A.toArray 0 sz)(hA:A.length=es.length*sz)(h2:im I w ys B.toArray 0 sz)(hB:B.length=ys.length*sz):im I w (es++ys) (A++B++C).toArray 0 sz:=by
 rw[Q4]at h1 h2⊢
 intro i hi
 by_cases bc:i<es.length
 ·have he:(es++ys).getD i []=es.getD i []:=by simp[aV,bI bc]
  rw[he]
  obtain⟨g1,g2⟩:=h1 i bc
  refine⟨g1,?_⟩
  rw[uN]at g2⊢
  intro j hj
  obtain⟨v,hv,hp⟩:=g2 j hj
  refine⟨v,?_,hp⟩
  have hl:=(Array.getElem?_eq_some_iff.1 hv).1
  simp only[bH,aK]at hv hl⊢
  rw[aM,bI hl];exact hv
 ·have iT:i-es.length<ys.length:=by simp at hi;omega
  have he:(es++ys).getD i []=ys.getD (i-es.length) []:=by simp[aV,bJ (show es.length<=i by omega)]
  rw[he]
  obtain⟨g1,g2⟩:=h2 _ iT
  refine⟨g1,?_⟩
  rw[uN]at g2⊢
  intro j hj
  obtain⟨v,hv,hp⟩:=g2 j hj
  refine⟨v,?_,hp⟩
  have hl:=(Array.getElem?_eq_some_iff.1 hv).1
  simp only[bH,aK]at hv hl⊢
  have e:0+i*sz+j=A.length+(0+(i-es.length)*sz+j):=by
   rw[hA,show i*sz=(es.length+(i-es.length))*sz by congr 1;omega,bK];omega
  rw[e,aM,bJ (by omega),bI (by omega)]
  rw[show A.length+(0+(i-es.length)*sz+j)-A.length=0+(i-es.length)*sz+j by omega]
  exact hv
theorem xV{c:Ctx}(hm:Mem c w){row aq:Row}{cur arr:Array Value}(hr:c.R r=some row)(hV:¬c.V r)(hk:c.R k=none)(hh:w.heap[c.ρ r]?=some (.cells cur row.ty (0,0)))(Lo:aq.ty=row.ty)(h0:0<aq.sz)(hb:aq.box=false)
 (hE:∀w',(∀b,c.I b->w'.heap[b]?=w.heap[b]?)->im c.I w' aq.es.l arr 0 aq.sz):
 ju (c.kill [r]) w ((c.kill [r]).add k aq (c.ρ r)) (w.setRow (c.ρ r) arr)/\Mem ((c.kill [r]).add k aq (c.ρ r)) (w.setRow (c.ρ r) arr):=by
 have uF:=Up (ks:=[r]) hm
 have Cm:(c.kill [r]).R k=none:=by simp[Ctx.kill,hk]
 have nJ:∀s x,(c.kill [r]).R s=some x->s≠r/\s≠k:=λs x hs=>by
  obtain⟨h1,j0,h2,_⟩:=nK hs
  refine⟨λe=>?_,λe=>by rw[e,Cm]at hs;cases hs⟩
  rw[e]at h1
  have:=oy (r:=r) (l:=[r])
  simp[h1]at this
 have fe:(w.setRow (c.ρ r) arr).heap[c.ρ r]?=some (.cells arr row.ty (0,0)):=setRow_heap w _ _ _ _ _ hh
 have sJ:∀s x,(c.kill [r]).R s=some x->¬c.V s->(w.setRow (c.ρ r) arr).heap[c.ρ s]?=w.heap[c.ρ s]? :=λs x hs v=>setRow_other w _ _ _ λe=>by
  obtain⟨_,j0,h2,_⟩:=nK hs
  exact(nJ s x hs).1 (hm.inj s r j0 row h2 hr v hV e)
 have hI:∀b,c.I b->(w.setRow (c.ρ r) arr).heap[b]?=w.heap[b]? :=λb hb=>setRow_other w _ _ _ (λe=>(hm.fk b hb).2 r row hr hV e.symm)
 have hg:ju (c.kill [r]) w ((c.kill [r]).add k aq (c.ρ r)) (w.setRow (c.ρ r) arr):=by
  refine⟨rfl,aX _,λb hb=>⟨hb,hI b hb⟩,λs x hs=>?_⟩
  obtain⟨n1,n2⟩:=nJ s x hs
  exact⟨x,by simp[Ctx.add,n2,hs],rfl,rfl,rfl,rfl,by simp[Ctx.add,n2],by simp[Ctx.add,n2],λv a ha=>⟨a,(sJ s x hs v).trans ha,rfl⟩⟩
 have inv:∀s x,((c.kill [r]).add k aq (c.ρ r)).R s=some x->¬((c.kill [r]).add k aq (c.ρ r)).V s->(s=k/\((c.kill [r]).add k aq (c.ρ r)).ρ s=c.ρ r)\/(s≠k/\s≠r/\((c.kill [r]).add k aq (c.ρ r)).ρ s=c.ρ s/\¬c.V s/\∃y,c.R s=some y):=λs x hs v=>by
  by_cases e:s=k
  ·exact .inl ⟨e,by simp[Ctx.add,e]⟩
  ·have jk:(c.kill [r]).R s=some x:=by simpa[Ctx.add,e]using hs
   obtain⟨_,y,hy,_⟩:=nK jk
   have v':¬c.V s:=λh=>v (by simp only[Ctx.add];exact⟨e,h⟩)
   exact .inr ⟨e,(nJ s x jk).1,by simp[Ctx.add,e,Ctx.kill],v',y,hy⟩
 refine⟨hg,⟨λs x hs=>?_,λs q x y hs hq v1 v2 he=>?_,λb ik=>?_,by show c.top<=(w.setRow _ _).heap.size;simpa[World.setRow]using hm.top,hm.kb.mono hg.I⟩⟩
 ·by_cases e:s=k
  ·subst e
   simp only[Ctx.add,if_true,Option.some.injEq]at hs
   subst hs
   refine .inr ⟨by simp[Ctx.add],arr,by simp only[Ctx.add,if_true];rw[Lo];exact fe,h0,?_⟩
   rw[hb]
   simp only[aA,if_false]
   exact hE _ hI
  ·have jk:(c.kill [r]).R s=some x:=by simpa[Ctx.add,e]using hs
   exact uf hg (by simp[Ctx.add,e]) (by simp[Ctx.add,e]) (λv=>sJ s x jk v) (uF.row s x jk)
 ·rcases inv s x hs v1 with⟨e1,p1⟩|⟨e1,p1,p2,p3,y1,p4⟩<;>rcases inv q y hq v2 with⟨e2,q1⟩|⟨e2,q1,q2,q3,y2,q4⟩
  ·rw[e1,e2]
  ·rw[p1,q2]at he
   exact(q1 (hm.inj q r y2 row q4 hr q3 hV he.symm)).elim
  ·rw[p2,q1]at he
   exact(p1 (hm.inj s r y1 row p4 hr p3 hV he)).elim
  ·rw[p2,q2]at he
   exact hm.inj s q y1 y2 p4 q4 p3 q3 he
 ·refine⟨by simpa[World.setRow]using(hm.fk b ik).1,λs x hs v=>?_⟩
  rcases inv s x hs v with⟨e1,p1⟩|⟨e1,p1,p2,p3,y1,p4⟩
  ·rw[p1];exact(hm.fk b ik).2 r row hr hV
  ·rw[p2];exact(hm.fk b ik).2 s y1 p4 p3
def CB(P:Program)(o:Oper)(ev:Operand->D)(R:Rows)(ks:List Nat)(val:D)(R':Rows):Prop:=
 ∀ (c:Ctx) (w:World) (a:Act),Mem c w->c.base<=w.heap.size->(∀r,c.R r=R.getD r none)->(∀x∈o.op.operands,Rep c w (ev x) (a.eval x))->
  ∀K Q,(∀v w' c',j6 ks c w c' w'->(∀r,c'.R r=R'.getD r none)->Rep c' w' val v->K (a.put o.dst v) w')->o.nM P a w K Q
theorem Fu.toK{o:Oper}{val:D}{R':Rows}(h:Fu P o ev R val R'):CB P o ev R [] val R':=
 λc w a hm hb hR ez K Q hK=>h c w a hm hb hR ez K Q λv w' c' hn ku hv=>hK v w' c' hn.toK ku hv
section
variable {P:Program} {c:Ctx} {w:World} {R:Rows} {ks:List Nat} {e sz me:Nat} {es ys:ag}
theorem Wx{ρ':Nat->Nat}{V':Nat->Prop}(hR:∀r,c.R r=R.getD r none):∀r,(if r=R.length then some row else(c.kill ks).R r)=(Qu ks R 0++[some row]).getD r none:=by
 intro r
 by_cases e:r=R.length
 ·subst e
  simp[aV,bJ,Kw]
 ·rw[if_neg e]
  by_cases bc:r<R.length
  ·rw[aV,bI (by rw[Kw];exact bc),<-aV,Sk]
   simp[Ctx.kill,hR]
  ·rw[aV,aJ (by simp[Kw];omega)]
   simp[Ctx.kill,hR,aJ (show R.length<=r by omega)]
theorem append_empty(ht:P.underlying t=some (.slice e))(re:P.underlying tx=some ux)(hx: ∀k,ux≠ .int k)(hi:P.info? e=some i)(hz:i.zero=some z)(ga:i.size=sz)(wu:i.bytes=me)(BE:z.cells.size=sz)
    (hm:Mem c w) (hb:c.base<=w.heap.size) (hR: ∀r,c.R r=R.getD r none) (h0:0<sz) (tB:0<me) (o4:me*(0+ys.l.length)<=140737488355328) {a:Option Addr} (Dz:DA c.top a) {vy:Value} (hs:Src P c w vy ys.l sz):
    ∃v' w' c',(Builtin.append_ #[t,tx] ty #[.slice a 0 0,vy]).run P w= .ok v' w'/\j6 ks c w c' w'/\(∀r,c'.R r=(Qu ks R 0++[some (⟨false,e,sz,ys⟩:Row)]).getD r none)/\Rep c' w' (.all R.length) v':=by
  obtain⟨news,g1,g2,g3,g4⟩:=hs
  have hk:c.R R.length=none:=by rw[hR];simp [aV]
  have Cm:(c.kill ks).R R.length=none:=by simp [Ctx.kill,hk]
  have uF:=Up (ks:=ks) hm
  subst ga
  by_cases hm0:ys.l.length=0
  . have US:ys.l=[]:=fV hm0
    have hn:news=[]:=fV (by rw[g1,hm0];simp)
    subst hn
    rw[US]at g2 g3
    have il:=Qt7 (P:=P) w (ty:=ty) (n:=0) (cap:=0) (a:=a) (w':=w) ht re hx hi g2 (by simpa using g3 0 (aX _) w rfl) (by simp) (λb _=>by simp [storeCells]) (λ_=>rfl)
    refine⟨_,w,(c.kill ks).jN R.length ⟨false,e,i.size,ys⟩,il,⟨YF uF Cm rfl US h0,UN Cm _,Fr.refl _ w,λb hb=> .inl hb,λr aq h1 h2=> ?_⟩,Wx (ρ':=c.ρ) (V':=c.V) hR,?_⟩
    . have ia:r≠R.length:=λe=>h2 (.inl e)
      have sK:(c.kill ks).R r=some aq:=by simpa [Ctx.jN,ia] using h1
      obtain⟨_,j0,h3,_⟩:=nK sK
      exact .inl ⟨⟨j0,h3⟩,λe=>h2 (.inr e),rfl⟩
    . exact⟨⟨false,e,i.size,ys⟩,by simp [Ctx.jN],rfl, .inl ⟨.inl rfl,a,rfl,Dz⟩⟩
  . have hlen:(0+ys.l.length:Nat)*i.bytes<=140737488355328:=by rw[wu,gA];exact o4
    have JF:0+ys.l.length<=140737488355328:=bL (gB _ (by rw[wu];exact tB)) hlen
    have hml:0+ys.l.length<=maxLen:=by unfold maxLen;omega
    have il:=Qtc (P:=P) w (ty:=ty) (n:=0) (cap:=0) (a:=a) (ly:=[]) (news:=news) ht re hx hi hz g2
      (by have:=g3 _ (aX _) w.drew rfl;rwa [fQ (by omega)]at this)
      (by cases a with
          |none=>simp [Builtin.firstCells]
          |some a=>simpa using run_firstCells_some (P:=P) w.drew i.size 0 a 0 0 [] (by simp) (λj v h=>by simp at h)) (by omega) (by omega) (growslice_fits (by omega) hlen)
    have e6:=grownCap_ge w (0+ys.l.length) 0 e
    have Bb:grownCap w (0+ys.l.length) 0 e<=maxLen:=grownCap_le_maxLen w _ _ e hml
    generalize grownCap w (0+ys.l.length) 0 e=gc at il e6 Bb
    have rh:(#[]++news.toArray++Builtin.zeroCells z.cells (gc-(0+ys.l.length))).size=gc*i.size:=by
      have e1:(#[]++news.toArray++Builtin.zeroCells z.cells (gc-(0+ys.l.length))).size=ys.l.length*i.size+(gc-(0+ys.l.length))*i.size:=by
        simp [size_zeroCells,BE,g1]
      rw[e1,<-bK]
      congr 1;omega
    have hE: ∀(I:ab) (w':World),(∀b,c.I b->I b/\w'.heap[b]? =w.heap[b]?)->im I w' ys.l (#[]++news.toArray++Builtin.zeroCells z.cells (gc-(0+ys.l.length))) 0 i.size:=λI w' h=>by
      have:=Ur (I:=I) (w:=w') (es:=[]) (ys:=ys.l) (A:=[]) (B:=news) (C:=(Builtin.zeroCells z.cells (gc-(0+ys.l.length))).toList) (sz:=i.size) (by simp [rV,rF]) (by simp) (ob h _ _ _ _ g4) g1
      have h2:(#[]++news.toArray++Builtin.zeroCells z.cells (gc-(0+ys.l.length)))=([]++news++(Builtin.zeroCells z.cells (gc-(0+ys.l.length))).toList).toArray:=by apply fY;simp
      rw[h2];simpa using this
    have Ic:=Mem.alloc (w:=w.drew) (I4 uF) Cm ⟨false,e,i.size,ys⟩ (#[]++news.toArray++Builtin.zeroCells z.cells (gc-(0+ys.l.length))) h0 (by
      simp only[aA,if_false]
      exact hE _ _ λb hb=>⟨hb,rfl⟩)
    have o5:=Wy (c:=c.kill ks) (w:=w.drew) (k:=R.length) (e:=e) (sz:=i.size) (cap:=gc) (es:=ys) (arr:= #[]++news.toArray++Builtin.zeroCells z.cells (gc-(0+ys.l.length))) (by omega) Bb rh.symm
    refine⟨_,_,(c.kill ks).add R.length ⟨false,e,i.size,ys⟩ w.heap.size,il,⟨Ic,(Lr _ w).trans (ju.alloc (w:=w.drew) (I4 uF) Cm _ _),?_,λb hb=> .inl hb,λr aq h1 h2=> ?_⟩,Wx (ρ':=c.ρ) (V':=c.V) hR,by have h3:=o5;simp only[bG]at h3⊢;exact h3⟩
    . exact Fr.trans (w':=w.drew) ⟨rfl,rfl,rfl,aX _,λ_ _ _=>rfl⟩ (Fr.alloc _ w.drew _)
    . by_cases e1:r=R.length
      . subst e1
        right;right
        simp [Ctx.add]
      . have sK:(c.kill ks).R r=some aq:=by simpa [Ctx.add,e1] using h1
        obtain⟨_,j0,h3,_⟩:=nK sK
        exact .inl ⟨⟨j0,h3⟩,by simpa [Ctx.add,e1,Ctx.kill] using h2,by simp [Ctx.add,e1,Ctx.kill]⟩
theorem Zr0(ht:P.underlying t=some (.slice e))(re:P.underlying tx=some ux)(hx:∀k,ux≠.int k)(hi:P.info? e=some i)(hz:i.zero=some z)(ga:i.size=sz)(wu:i.bytes=me)(BE:z.cells.size=sz)
 (hm:Mem c w) (hb:c.base<=w.heap.size) (hR:∀r,c.R r=R.getD r none) (h0:0<sz) (tB:0<me) (o4:me*(es.l.length+ys.l.length)<=140737488355328) {r:Nat} {row:Row} (q1:c.R r=some row) (Lo:row.ty=e) (hV:¬c.V r) {cap:Nat} {cur:Array Value} (h1:es.l.length<=cap) (h2:cap<=maxLen) (h3:w.heap[c.ρ r]?=some (.cells cur e (0,0))) (h4:cap*sz=cur.size) (Cn:im c.I w es.l cur 0 sz) {vy:Value} (hs:Src P c w vy ys.l sz):
 ∃v' w' c',(Builtin.append_ #[t,tx] ty #[.slice (some ⟨c.ρ r,0,none⟩) es.l.length cap,vy]).run P w=.ok v' w'/\j6 [r] c w c' w'/\(∀q,c'.R q=(Qu [r] R 0++[some (⟨false,e,sz,es.app ys⟩:Row)]).getD q none)/\Rep c' w' (.all R.length) v':=by
 obtain⟨news,g1,g2,g3,g4⟩:=hs
 have hk:c.R R.length=none:=by rw[hR];simp[aV]
 have Cm:(c.kill [r]).R R.length=none:=by simp[Ctx.kill,hk]
 have uF:=Up (ks:=[r]) hm
 subst ga
 have hlen:(es.l.length+ys.l.length)*i.bytes<=140737488355328:=by rw[wu,gA];exact o4
 have JF:es.l.length+ys.l.length<=140737488355328:=bL (gB _ (by rw[wu];exact tB)) hlen
 have hml:es.l.length+ys.l.length<=maxLen:=by unfold maxLen;omega
 obtain⟨ly,o1,o2,o3⟩:=Uq Cn h0
 by_cases lq:es.l.length+ys.l.length<=cap
 ·have nq:es.l.length*i.size+0+news.length<=cur.size:=by rw[g1,<-h4,aB,<-bK];exact bD _ lq
  have kj:=run_storeCells_at (P:=P) (c.ρ r) (es.l.length*i.size) e news 0 cur w h3 nq (im.one g4 g1)
  simp only[aB]at kj nq
  have il:=Qt7 (P:=P) w (ty:=ty) (n:=es.l.length) (cap:=cap) (a:=some ⟨c.ρ r,0,none⟩) ht re hx hi g2 (by have:=g3 _ (aX _) w rfl;rwa [fQ (by omega)]at this) lq (λb hb=>by cases hb;rw[Addr.add_lit,bG];exact kj) (λh=>by cases h)
  have hE:∀w',(∀b,c.I b->w'.heap[b]?=w.heap[b]?)->im c.I w' (es.app ys).l (cur.toList.take (es.l.length*i.size)++news++cur.toList.drop (es.l.length*i.size+news.length)).toArray 0 i.size:=λw' h=>by
   rw[ag.kB]
   refine Ur (A:=cur.toList.take (es.l.length*i.size)) (ob (λb hb=>⟨hb,h b hb⟩) _ _ _ _ ?_) (by rw[aD,show cur.toList.length=cur.size from rfl];omega) (ob (λb hb=>⟨hb,h b hb⟩) _ _ _ _ g4) g1
   have:cur.toList.take (es.l.length*i.size)=ly:=by
    apply List.ext_getElem?
    intro j
    by_cases hj:j<ly.length
    ·have:=o2 j _ (aI hj)
     rw[aF,if_pos (by omega),aI hj]
     simpa using this
    ·rw[aJ (by rw[aD];omega),aJ (by omega)]
   rw[this];exact o3
  obtain⟨k1,k2⟩:=xV hm (k:=R.length) (aq:=⟨false,e,i.size,es.app ys⟩) q1 hV hk (by rw[Lo];exact h3) Lo.symm h0 rfl hE
  refine⟨_,_,_,il,⟨k2,k1,(Us w _ _).mono λb _ hb=>⟨r,_,q1,hV,hb.symm⟩,λb hb=>.inl hb,λq aq p1 p2=>?_⟩,Wx (ρ':=c.ρ) (V':=c.V) hR,?_⟩
  ·by_cases e1:q=R.length
   ·subst e1
    exact .inr (.inl ⟨r,_,by simp[da],q1,hV,by simp[Ctx.add]⟩)
   ·have sK:(c.kill [r]).R q=some aq:=by simpa[Ctx.add,e1]using p1
    obtain⟨_,j0,Oo,_⟩:=nK sK
    exact .inl ⟨⟨j0,Oo⟩,by simpa[Ctx.add,e1,Ctx.kill]using p2,by simp[Ctx.add,e1,Ctx.kill]⟩
  ·refine⟨⟨false,e,i.size,es.app ys⟩,by simp[Ctx.add],rfl,.inr ⟨by simp[Ctx.add],cap,(cur.toList.take (es.l.length*i.size)++news++cur.toList.drop (es.l.length*i.size+news.length)).toArray,?_,by rw[ag.kB,lA];exact lq,h2,?_,?_⟩⟩
   ·simp only[Ctx.add,if_true,ag.kB,lA]
   ·simp only[Ctx.add,if_true];exact setRow_heap w _ _ _ _ _ h3
   ·simp only[aK,lA,aD,aG,Array.length_toList]
    rw[h4];omega
 ·have il:=Qtc (P:=P) w (ty:=ty) (n:=es.l.length) (cap:=cap) (a:=some ⟨c.ρ r,0,none⟩) (ly:=ly) (news:=news) ht re hx hi hz g2
   (by have:=g3 _ (aX _) w.drew rfl;rwa [fQ (by omega)]at this)
   (run_firstCells_some (P:=P) w.drew i.size es.l.length _ _ cap ly o1 λj v hj=>by
    rw[yv (w:=w.drew) h3];exact o2 j v hj) (by omega) (by omega) (growslice_fits (by omega) hlen)
  have e6:=grownCap_ge w (es.l.length+ys.l.length) cap e
  have Bb:grownCap w (es.l.length+ys.l.length) cap e<=maxLen:=grownCap_le_maxLen w _ _ e hml
  generalize grownCap w (es.l.length+ys.l.length) cap e=gc at il e6 Bb
  have rh:(ly.toArray++news.toArray++Builtin.zeroCells z.cells (gc-(es.l.length+ys.l.length))).size=gc*i.size:=by
   have e1:(ly.toArray++news.toArray++Builtin.zeroCells z.cells (gc-(es.l.length+ys.l.length))).size=es.l.length*i.size+ys.l.length*i.size+(gc-(es.l.length+ys.l.length))*i.size:=by
    simp[size_zeroCells,BE,g1,o1]
   rw[e1,<-bK,<-bK]
   congr 1;omega
  have hE:∀(I:ab) (w':World),(∀b,c.I b->I b/\w'.heap[b]?=w.heap[b]?)->im I w' (es.app ys).l (ly.toArray++news.toArray++Builtin.zeroCells z.cells (gc-(es.l.length+ys.l.length))) 0 i.size:=λI w' h=>by
   rw[ag.kB]
   have:=Ur (I:=I) (w:=w') (es:=es.l) (ys:=ys.l) (A:=ly) (B:=news) (C:=(Builtin.zeroCells z.cells (gc-(es.l.length+ys.l.length))).toList) (sz:=i.size) (ob h _ _ _ _ o3) o1 (ob h _ _ _ _ g4) g1
   have h2:(ly.toArray++news.toArray++Builtin.zeroCells z.cells (gc-(es.l.length+ys.l.length)))=(ly++news++(Builtin.zeroCells z.cells (gc-(es.l.length+ys.l.length))).toList).toArray:=by apply fY;simp
   rw[h2];exact this
  have Ic:=Mem.alloc (w:=w.drew) (I4 uF) Cm ⟨false,e,i.size,es.app ys⟩ (ly.toArray++news.toArray++Builtin.zeroCells z.cells (gc-(es.l.length+ys.l.length))) h0 (by
   simp only[aA,if_false]
   exact hE _ _ λb hb=>⟨hb,rfl⟩)
  have o5:=Wy (c:=c.kill [r]) (w:=w.drew) (k:=R.length) (e:=e) (sz:=i.size) (cap:=gc) (es:=es.app ys) (arr:=ly.toArray++news.toArray++Builtin.zeroCells z.cells (gc-(es.l.length+ys.l.length))) (by rw[ag.kB,lA];omega) Bb rh.symm
  refine⟨_,_,(c.kill [r]).add R.length ⟨false,e,i.size,es.app ys⟩ w.heap.size,il,⟨Ic,(Lr _ w).trans (ju.alloc (w:=w.drew) (I4 uF) Cm _ _),?_,λb hb=>.inl hb,λq aq p1 p2=>?_⟩,Wx (ρ':=c.ρ) (V':=c.V) hR,by rw[ag.kB,lA]at o5;exact o5⟩
  ·exact Fr.trans (w':=w.drew) ⟨rfl,rfl,rfl,aX _,λ_ _ _=>rfl⟩ (Fr.alloc _ w.drew _)
  ·by_cases e1:q=R.length
   ·subst e1
    right;right
    simp[Ctx.add]
   ·have sK:(c.kill [r]).R q=some aq:=by simpa[Ctx.add,e1]using p1
    obtain⟨_,j0,Oo,_⟩:=nK sK
    exact .inl ⟨⟨j0,Oo⟩,by simpa[Ctx.add,e1,Ctx.kill]using p2,by simp[Ctx.add,e1,Ctx.kill]⟩
theorem Zz7(ht:P.underlying t=some (.slice e))(re:P.underlying tx=some ux)(hx:∀k,ux≠.int k)(hi:P.info? e=some i)(hz:i.zero=some z)(ga:i.size=sz)(wu:i.bytes=me)(BE:z.cells.size=sz)
 (hm:Mem c w) (hb:c.base<=w.heap.size) (hR:∀r,c.R r=R.getD r none) (h0:0<sz) (tB:0<me) (o4:me*(es.l.length+ys.l.length)<=140737488355328) {r:Nat} (hr:R.getD r none=some ⟨false,e,sz,es⟩) {vx vy:Value} (hvx:Rep c w (.all r) vx) (hs:Src P c w vy ys.l sz):
 ∃v' w' c',(Builtin.append_ #[t,tx] ty #[vx,vy]).run P w=.ok v' w'/\j6 [r] c w c' w'/\(∀q,c'.R q=(Qu [r] R 0++[some (⟨false,e,sz,es.app ys⟩:Row)]).getD q none)/\Rep c' w' (.all R.length) v':=by
 obtain⟨row,q1,q2,hv⟩:=hvx
 have c6:row=⟨false,e,sz,es⟩:=by rw[hR,hr]at q1;exact(Option.some.inj q1).symm
 subst c6
 rcases hv with⟨hV,a,hv,Dz⟩|⟨hV,cap,cur,hv,h1,h2,h3,h4⟩
 ·have he:=(hm.nZ q1 hV).2.1
  simp only at he
  subst hv
  have hl:(es.app ys).l=ys.l:=by rw[ag.kB,he];rfl
  exact append_empty (ks:=[r]) (ys:=es.app ys) ht re hx hi hz ga wu BE hm hb hR h0 tB (by rw[hl];rw[he]at o4;simpa using o4) Dz (by rw[hl];exact hs)
 ·have hl:=hm.real q1 hV
  obtain⟨Oj,jV,_,Cn⟩:=hl
  simp only at h1 h3 h4 hv jV
  subst hv
  rw[h3]at jV;cases jV
  simp only[aA,if_false]at Cn
  exact Zr0 ht re hx hi hz ga wu BE hm hb hR h0 tB o4 q1 rfl hV h1 h2 h3 h4 Cn hs
theorem Zzb(ht:P.underlying t=some (.slice e))(re:P.underlying tx=some ux)(hx:∀k,ux≠.int k)(hi:P.info? e=some i)(hz:i.zero=some z)(ga:i.size=sz)(wu:i.bytes=me)(BE:z.cells.size=sz)
 (hm:Mem c w) (hb:c.base<=w.heap.size) (hR:∀r,c.R r=R.getD r none) (h0:0<sz) (tB:0<me) (o4:me*((es.take n).l.length+ys.l.length)<=140737488355328) {r:Nat} (hr:R.getD r none=some ⟨false,e,sz,es⟩) {vx vy:Value} (hvx:Rep c w (.own r 0 n) vx) (hs:Src P c w vy ys.l sz):
 ∃v' w' c',(Builtin.append_ #[t,tx] ty #[vx,vy]).run P w=.ok v' w'/\j6 [r] c w c' w'/\(∀q,c'.R q=(Qu [r] R 0++[some (⟨false,e,sz,(es.take n).app ys⟩:Row)]).getD q none)/\Rep c' w' (.all R.length) v':=by
 obtain⟨row,q1,q2,hle,hv⟩:=hvx
 have c6:row=⟨false,e,sz,es⟩:=by rw[hR,hr]at q1;exact(Option.some.inj q1).symm
 subst c6
 have hln:(es.take n).l.length=n:=by rw[ag.jo,aD];simp only at hle;omega
 rcases hv with⟨h0',a,hv,Dz⟩|⟨hV,cap,cur,h1,h2,h3,hv,h4⟩
 ·subst hv;subst h0'
  have EY:(es.take 0).l=[]:=by rw[ag.jo];rfl
  have hl:((es.take 0).app ys).l=ys.l:=by rw[ag.kB,EY];rfl
  have g:ju c w {c with top:=w.heap.size} w:=⟨rfl,hm.top,λb hb=>⟨hb,rfl⟩,λr row hr=>⟨row,hr,rfl,rfl,rfl,rfl,rfl,Iff.rfl,λnv arr ha=>⟨arr,ha,rfl⟩⟩⟩
  have Jl:Mem {c with top:=w.heap.size} w:=⟨λr row hr=>uf g rfl Iff.rfl (λ_=>rfl) (hm.row r row hr),hm.inj,hm.fk,aX _,hm.kb⟩
  have Hm:DA w.heap.size a:=by
   rcases Dz with h|⟨hV,h⟩
   ·exact h.mono hm.top
   ·exactλx hx=>by rw[h x hx];exact hm.lt q1 hV
  obtain⟨v',w',c',p1,p2,p3,p4⟩:=append_empty (c:={c with top:=w.heap.size}) (ks:=[r]) (ys:=(es.take 0).app ys) ht re hx hi hz ga wu BE Jl hb hR h0 tB (by rw[hl];rw[EY]at o4;simpa using o4) Hm (by rw[hl];exact hs)
  refine⟨v',w',c',p1,⟨p2.mem,?_,p2.fr,p2.fk,p2.oO⟩,p3,p4⟩
  have g':ju (c.kill [r]) w (Ctx.kill {c with top:=w.heap.size} [r]) w:=⟨rfl,hm.top,λb hb=>⟨hb,rfl⟩,λr row hr=>⟨row,hr,rfl,rfl,rfl,rfl,rfl,Iff.rfl,λnv arr ha=>⟨arr,ha,rfl⟩⟩⟩
  exact g'.trans p2.cz
 ·obtain⟨Oj,jV,_,Cn⟩:=hm.real q1 hV
  simp only at h3 h4 hv jV
  rw[h3]at jV;cases jV
  simp only[aA,if_false]at Cn
  have hE1:im c.I w (es.take n).l cur 0 sz:=by rw[ag.jo];exact Nw Cn
  rw[hv,show((0:Nat)*sz)=0 from Nat.zero_mul _]
  have:=Zr0 (ty:=ty) (es:=es.take n) (cap:=cap) ht re hx hi hz ga wu BE hm hb hR h0 tB o4 q1 rfl hV (by rw[hln];exact h1) h2 h3 (by rw[<-h4,bG]) hE1 hs
  rw[hln]at this
  exact this
end
theorem UE{E:ag}(h:Jw E=true):E.l=[]:=by
 unfold Jw at h
 split at h
 ·rfl
 ·cases h
theorem Zvy{T:iz}(hT:jC P T){x y:D}(h:Zx T M t tx x y R K):
    ∃ ks R',K ks (.all R.length) R'/\(∀k,da k ks=true->M<=k)/\ ∀c w vx vy,Mem c w->c.base<=w.heap.size->(∀r,c.R r=R.getD r none)->Rep c w x vx->Rep c w y vy->
      ∃v' w' c',(Builtin.append_ #[t,tx] ty #[vx,vy]).run P w= .ok v' w'/\j6 ks c w c' w'/\(∀r,c'.R r=R'.getD r none)/\Rep c' w' (.all R.length) v':=by
  unfold Zx at h
  split at h
  . rename_i e iW _ _ _ _ _ ht
    have hk:=nj hT ht
    simp only at hk
    split at h
    . rename_i ke sz me cs z q kx _ _ _ _ _ he htx
      obtain⟨i,u,hi,hu,AK,hs,hb,hc,hzero⟩:=Ie hT he
      have Wz:=nj hT htx
      split at h
      . rename_i sy ys kf
        simp only[de,aE,Bool.or_eq_true]at h
        obtain⟨⟨⟨⟨h0,h1⟩,h2,h3⟩,h4,h5⟩,h⟩:=h
        have h0:0<sz:=lE h0
        have tB:0<me:=lE h4
        have h2:=bE h2
        have h5:sy=sz\/ys.l=[]:=h5.imp bE UE
        have uA:u.cells.size=sz:=by have:=Nx AK;simp at this;omega
        obtain⟨ux,re,oh⟩: ∃ux,P.underlying tx=some ux/\ ∀k,ux≠ .int k:=by
          unfold Dy at kf
          split at kf
          . simp only at Wz;exact⟨_,Wz.1,λk e=>by cases e⟩
          . simp only at Wz;exact⟨_,Wz,λk e=>by cases e⟩
          . cases kf
        have Ao: ∀(c:Ctx) (w:World) (vy:Value),Mem c w->(∀r,c.R r=R.getD r none)->Rep c w y vy->Src P c w vy ys.l sz:=λc w vy hm hR hy=>xad h0 kf h5 hm (λr row aq g1 g2=>by rw[hR,g2]at g1;exact(Option.some.inj g1).symm) hy
        cases x<;>simp only at h
        case c8=>
          simp only[DB,de,decide_eq_true_eq,nP,<-ag.iw]at h
          refine⟨_,_,h.2,λk hk=>by simp [da]at hk,λc w vx vy hm su hR hx hy=> ?_⟩
          rw[show vx=_ from hx]
          have hl:((ag.gen []).app ys).l=ys.l:=by rw[ag.kB];rfl
          exact append_empty (ks:=[]) (ys:=(ag.gen []).app ys) hk.1 re oh hi hu hs hb uA hm su hR h0 tB (by rw[hl];have:=h.1;simpa [ag.l] using this) OF (by rw[hl];exact Ao c w vy hm hR hy)
        case emp=>
          simp only[DB,de,decide_eq_true_eq,nP,<-ag.iw]at h
          refine⟨_,_,h.2,λk hk=>by simp [da]at hk,λc w vx vy hm su hR hx hy=> ?_⟩
          obtain⟨a,hx,Dz⟩:=hx
          rw[hx]
          have hl:((ag.gen []).app ys).l=ys.l:=by rw[ag.kB];rfl
          exact append_empty (ks:=[]) (ys:=(ag.gen []).app ys) hk.1 re oh hi hu hs hb uA hm su hR h0 tB (by rw[hl];have:=h.1;simpa [ag.l] using this) Dz (by rw[hl];exact Ao c w vy hm hR hy)
        case all r=>
          split at h
          . rename_i kg s es hr
            simp only[aE,DB,de,decide_eq_true_eq,nP,<-ag.iw]at h
            obtain⟨⟨⟨g1,g2⟩,g3⟩,g5,g6⟩:=h
            have g1:=bE g1
            have g2:=bE g2
            subst g1;subst g2
            refine⟨_,_,g6,λk hk=> ?_,λc w vx vy hm su hR hx hy=> ?_⟩
            . have:=oy.1 hk
              simp at this
              rw[this];exact lE g3
            . exact Zz7 hk.1 re oh hi hu hs hb uA hm su hR h0 tB g5 hr hx (Ao c w vy hm hR hy)
          . exact h.elim
        case own r o n=>
          split at h
          . rename_i kg s es hr
            simp only[aE,DB,de,decide_eq_true_eq,nP,<-ag.iw]at h
            obtain⟨⟨⟨g1,g2⟩,g3,g4⟩,g5,g6⟩:=h
            have g1:=bE g1
            have g2:=bE g2
            have g4:=bE g4
            subst g1;subst g2;subst g4
            refine⟨_,_,g6,λk hk=> ?_,λc w vx vy hm su hR hx hy=> ?_⟩
            . have:=oy.1 hk
              simp at this
              rw[this];exact lE g3
            . exact Zzb hk.1 re oh hi hu hs hb uA hm su hR h0 tB g5 hr hx (Ao c w vy hm hR hy)
          . exact h.elim
      . exact h.elim
    . exact h.elim
  . exact h.elim
theorem Zcj{c:Ctx}(ia:∀f cs,d≠.gv f cs)(h:dc c w d v):dc {c with base:=0} w d v:=by
 cases d with
 |sl sz es fr=>
  obtain⟨a,cap,hv,hc,gz⟩:=h
  refine⟨a,cap,hv,hc,?_⟩
  rcases gz with gz|⟨b,off,arr,ty,fz,ha,hI,hf,hh,hE⟩
  ·exact .inl gz
  ·exact .inr ⟨b,off,arr,ty,fz,ha,hI,λ_=>Nat.zero_le _,hh,hE⟩
 |gv f cs=>exact absurd rfl (ia f cs)
 |_=>exact h
theorem Z3a{c:Ctx}(h:dc c w d v):dc {c with base:=0} w d v:=by
 by_cases e:∃g cs,d=.gv g cs
 ·obtain⟨g,cs,rfl⟩:=e
  obtain⟨us,hv,hu⟩:=h
  exact⟨us,hv,Zdl (c:=c) (w:=w) (c':={c with base:=0}) (w':=w) (S:=λ_=>True) (λd v q1 _ q2=>Zcj q1 q2) (λ_ hb=>⟨hb,rfl⟩) (λ_ _=>trivial) hu⟩
 ·exact Zcj (λf cs e'=>e ⟨f,cs,e'⟩) h
theorem Zc3{c:Ctx}{w:World}:∀{ds:List D} {vs:List Value},jG c w ds vs->jG {c with base:=0} w ds vs
 |[],[],_=>trivial
 |_::_,_::_,h=>⟨Z3a h.1,Zc3 h.2⟩
 |[],_::_,h=>h.elim
 |_::_,[],h=>h.elim
theorem Zhj{c:Ctx}(h:VRep c w d v):VRep {c with base:=0} w d v:=by
 cases d with
 |agg cs=>obtain⟨vs,hv,hr⟩:=h;exact⟨vs,hv,Zc3 hr⟩
 |_=>exact VRep.Fs (Z3a (VRep.toC (λcs e=>by cases e) h))
theorem Qz5{c:Ctx}{w:World}:∀{ds:List D} {vs:List Value},kJ c w ds vs->kJ {c with base:=0} w ds vs
 |[],[],_=>trivial
 |_::_,_::_,h=>⟨Zhj h.1,Qz5 h.2⟩
 |[],_::_,h=>h.elim
 |_::_,[],h=>h.elim
theorem Z64{c:Ctx}{w:World}:∀{ds:List D} {arr:Array Value} {off:Nat},lg c w ds arr off->lg {c with base:=0} w ds arr off
 |[],_,_,_=>trivial
 |_::_,_,_,⟨⟨v,hv,h1⟩,h2⟩=>⟨⟨v,hv,Z3a h1⟩,Z64 h2⟩
theorem Zo8{c:Ctx}(h:Mem c w):Mem {c with base:=0} w:=by
 refine⟨λr row hr=>?_,h.inj,h.fk,h.top,h.kb⟩
 rcases h.row r row hr with h0|⟨h0,arr,ha,hs,hx⟩
 ·exact .inl h0
 ·refine .inr ⟨h0,arr,ha,hs,?_⟩
  split
  ·rename_i hb
   rw[if_pos hb]at hx
   obtain⟨e,k1,k2,k3,k4⟩:=hx
   exact⟨e,k1,k2,k3,Z64 k4⟩
  ·rename_i hb
   rw[if_neg hb]at hx
   exact hx
theorem Z5u{f:Nat->Nat}:∀{ids:List Nat} {rows:List Row} {R:Rows},ids.Nodup->ids.length<=rows.length->(∀r∈ids,r<R.length)->
 (Gn f ids rows R).length=R.length/\(∀(i r:Nat),ids[i]?=some r->∃row,rows[i]?=some row/\(Gn f ids rows R).getD r none=some (row.jB f false))/\∀r,r∉ids->(Gn f ids rows R).getD r none=R.getD r none
 |[],rows,R,_,_,_=>by
  have:Gn f [] rows R=R:=by cases rows<;>rfl
  rw[this]
  exact⟨rfl,λi r h=>by simp at h,λ_ _=>rfl⟩
 |r::ids,[],R,_,hl,_=>by simp at hl
 |r ::ids,row::rows,R,lH,hl,bc=>by
  obtain⟨Jt,Ky⟩:=List.nodup_cons.1 lH
  obtain⟨g1,g2,g3⟩:=Z5u (f:=f) (ids:=ids) (rows:=rows) (R:=R.set r (some (row.jB f false))) Ky (by simpa using hl) (λq hq=>by simpa using bc q (by simp[hq]))
  have hr:=bc r (by simp)
  have hat:(R.set r (some (row.jB f false))).getD r none=some (row.jB f false):=by simp[aV,hr]
  have ia:∀q,q≠r->(R.set r (some (row.jB f false))).getD q none=R.getD q none:=λq hq=>by simp[aV,List.getElem?_set_ne (Ne.symm hq)]
  simp only[Gn]
  refine⟨by simpa using g1,λi q hq=>?_,λq hq=>?_⟩
  ·cases i with
   |zero=>
    simp at hq;subst hq
    exact⟨row,rfl,by rw[g3 _ Jt];exact hat⟩
   |succ i=>simpa using g2 i q (by simpa using hq)
  ·have h1:q≠r:=λe=>hq (by simp[e])
   rw[g3 q (λe=>hq (by simp[e])),ia q h1]
def Ctx.ee(c:Ctx)(c':Ctx)(kl n0:Nat)(R2:Rows):Ctx:=
 { ρ:=λr=>if n0<=r/\r<R2.length then c'.ρ (kl+(r-n0)) else c.ρ r,
   R:=λr=>R2.getD r none,
   V:=λr=>if n0<=r/\r<R2.length then c'.V (kl+(r-n0)) else c.V r,
   I:=c'.I,base:=c.base,top:=c'.top,X:=c.X}
theorem Ny{i k n:Nat}:da i (bO k n)=true↔k<=i/\i<k+n:=by
 rw[oy,List.mem_range'_1]
theorem Zgy{c c':Ctx}{ids:List Nat}{dz aj:List Row}(hm:Mem c w)(hR:∀r,c.R r=R.getD r none)
 (lH:ids.Nodup) (db:BZ R (λr=>pos r ids 0) ids=some dz) (hle:(ids.take k).length<=aj.length)
 (hx:j6 (bO k (dz.length-k)) {c.pass w ids dz false with base:=0} w c' w') (ku:∀i,c'.R i=aj[i]?)
 {R2:Rows} (wv:R2=Gn (bk (ids.take k) R.length) (ids.take k) aj (Qu (ids.drop k) R 0)++Sl (bk (ids.take k) R.length) (aj.drop (ids.take k).length)):
 EZ (λ_=>True) (bk (ids.take k) R.length) false c' (c.ee c' (ids.take k).length R.length R2)/\
 j6 (ids.drop k) c w (c.ee c' (ids.take k).length R.length R2) w':=by
 obtain⟨jH,Bn⟩:=Gp db
 generalize hf:bk (ids.take k) R.length=f at*
 generalize hkl:(ids.take k).length=kl at*
 have oE:∀r row,R.getD r none=some row->c.R r=some row:=λr row e=>by rw[hR];exact e
 have bc:∀r∈ids,r<R.length:=λr hr=>by
  obtain⟨row,h1,_⟩:=Bn _ r (Ca hr)
  by_cases hl:r<R.length
  ·exact hl
  ·rw[aV,aJ (by omega)]at h1;cases h1
 have htd:ids.take k++ids.drop k=ids:=List.take_append_drop k ids
 have Jaj:(ids.take k).Nodup:=by rw[<-htd]at lH;exact(List.nodup_append.1 lH).1
 have Sm:∀r,r∈ids.take k->r∈ids.drop k->False:=λr h1 h2=>by
  rw[<-htd]at lH
  exact(List.nodup_append.1 lH).2.2 r h1 r h2 rfl
 have JaH:kl=min k ids.length:=by rw[<-hkl];simp
 have DC:∀i,i<kl->(ids.take k)[i]?=ids[i]? :=λi hi=>by rw[aF,if_pos (by omega)]
 have tC:∀i r,ids[i]?=some r->kl<=i->r∈ids.drop k:=λi r hi e6=>by
  have nu:=(List.getElem?_eq_some_iff.1 hi).1
  have:(ids.drop k)[i-k]?=some r:=by rw[fZ,show k+(i-k)=i by omega];exact hi
  exact gC this
 obtain⟨k1,k2,k3⟩:=Z5u (f:=f) (ids:=ids.take k) (rows:=aj) (R:=Qu (ids.drop k) R 0) Jaj (by rw[hkl];exact hle) (λr hr=>by rw[Kw];exact bc r (gD hr))
 rw[Kw]at k1
 have wW:R2.length=R.length+(aj.length-kl):=by rw[wv];simp[k1,Sl]
 have Sn:∀r,r<R.length->R2.getD r none=(Gn f (ids.take k) aj (Qu (ids.drop k) R 0)).getD r none:=λr hr=>by
  rw[wv,aV,aV,bI (by omega)]
 have hhi:∀i,kl<=i->i<aj.length->R2.getD (R.length+(i-kl)) none=aj[i]?.map λrow=>row.jB f false:=λi h1 h2=>by
  have:∀(l:List Row) (j:Nat),(Sl f l)[j]?=l[j]?.map λrow=>some (row.jB f false):=λl j=>by simp[Sl]
  rw[wv,aV,bJ (by omega),this,k1,show R.length+(i-kl)-R.length=i-kl by omega,fZ,show kl+(i-kl)=i by omega]
  rw[aI h2];rfl
 have jW:∀i r aq,i<kl->ids[i]?=some r->c'.R i=some aq->∃row,c.R r=some row/\aq.box=row.box/\aq.ty=row.ty/\aq.sz=row.sz/\aq.es.l.length=row.es.l.length/\c'.ρ i=c.ρ r/\(c'.V i↔c.V r)/\r<R.length/\R2.getD r none=some (aq.jB f false)/\f i=r/\
  (¬c.V r->∀arr,w.heap[c.ρ r]?=some (.cells arr row.ty (0,0))->∃iX,w'.heap[c.ρ r]?=some (.cells iX row.ty (0,0))/\iX.size=arr.size):=by
  intro i r aq oK hi jF
  obtain⟨row,h1,h2⟩:=Bn i r hi
  have mU:=gC hi
  have h3:=oE r row h1
  have DD:(({c.pass w ids dz false with base:=0}:Ctx).kill (bO k (dz.length-k))).R i=some ((row.jB (λr=>pos r ids 0) false).kill (bO k (dz.length-k))):=by
   simp only[Ctx.kill,Ctx.pass]
   rw[if_neg (λe=>by have:=Ny.1 e;omega),h2];rfl
  obtain⟨tD,g1,g2,g3,g4,g5,g6,gV,g7⟩:=hx.cz.R i _ DD
  rw[jF]at g1;cases g1
  obtain⟨s1,s2,s3,s4⟩:=Kz (λr=>pos r ids 0) false row
  obtain⟨t1,t2,t3,t4⟩:=wZ (bO k (dz.length-k)) (row.jB (λr=>pos r ids 0) false)
  have iT:=(DC i oK).trans hi
  obtain⟨lz,q1,q2⟩:=k2 i r iT
  rw[ku,q1]at jF;cases jF
  refine⟨row,h3,g2.trans (t1.trans s1),g3.trans (t2.trans s2),g4.trans (t3.trans s3),g5.trans (t4.trans s4),by simpa[Ctx.kill,Ctx.pass,hi]using g6,by simpa[Ctx.kill,Ctx.pass,hi]using gV,bc r mU,by rw[Sn r (bc r mU)];exact q2,by rw[<-hf];simp[bk,iT],λnv arr ha=>?_⟩
  have:=g7 (by simpa[Ctx.kill,Ctx.pass,hi]using nv) arr (by simpa[Ctx.kill,Ctx.pass,hi,s2,t2]using ha)
  simpa[Ctx.kill,Ctx.pass,hi,s2,t2]using this
 have Pj:∀i aq,c'.R i=some aq->¬c'.V i->(∃j s row,ids[j]?=some s/\c.R s=some row/\¬c.V s/\c'.ρ i=c.ρ s/\(i<kl->j=i)/\(kl<=i->s∈ids.drop k))\/w.heap.size<=c'.ρ i:=by
  intro i aq h1 nv
  by_cases oK:i<kl
  ·have iT:ids[i]?=some ids[i]:=aI (by omega)
   obtain⟨row,g1,g2,g3,g4,g5,g6,g7,_⟩:=jW i _ aq oK iT h1
   exact .inl ⟨i,_,row,iT,g1,λe=>nv (g7.2 e),g6,λ_=>rfl,λh=>by omega⟩
  ·rcases hx.oO i aq h1 nv with⟨⟨x,pP⟩,v,e⟩|⟨s,x,hs,pP,v,e⟩|e
   ·have JS:dz[i]?=some x:=pP
    have Ig:=(List.getElem?_eq_some_iff.1 JS).1
    have iT:ids[i]?=some ids[i]:=aI (by omega)
    obtain⟨row,g1,g2⟩:=Bn i _ iT
    exact .inl ⟨i,_,row,iT,oE _ _ g1,by simpa[Ctx.pass,iT]using v,by simpa[Ctx.pass,iT]using e,λh=>by omega,λ_=>tC i _ iT (by omega)⟩
   ·have JS:dz[s]?=some x:=pP
    have Ig:=(List.getElem?_eq_some_iff.1 JS).1
    have iT:ids[s]?=some ids[s]:=aI (by omega)
    obtain⟨row,g1,g2⟩:=Bn s _ iT
    have hsk:=(Ny.1 hs).1
    exact .inl ⟨s,_,row,iT,oE _ _ g1,by simpa[Ctx.pass,iT]using v,by simpa[Ctx.pass,iT]using e,λh=>by omega,λ_=>tC s _ iT (by omega)⟩
   ·exact .inr e
 have new:∀i aq,kl<=i->c'.R i=some aq->i<aj.length/\R2.getD (R.length+(i-kl)) none=some (aq.jB f false)/\f i=R.length+(i-kl):=by
  intro i aq hi jF
  have h1:aj[i]?=some aq:=by rw[<-ku];exact jF
  have h2:=(List.getElem?_eq_some_iff.1 h1).1
  refine⟨h2,by rw[hhi i hi h2,h1];rfl,?_⟩
  rw[<-hf]
  simp only[bk]
  rw[aJ (by omega),hkl]
 have DE:EZ (λ_=>True) f false c' (c.ee c' kl R.length R2):=by
  refine⟨λi aq _ jF=>?_,(λh=>by cases h),aX _⟩
  obtain⟨s1,s2,s3,s4⟩:=Kz f false aq
  by_cases hi:i<kl
  ·have iT:ids[i]?=some ids[i]:=aI (by omega)
   obtain⟨row,g1,g2,g3,g4,g5,g6,g7,g8,g9,g10,_⟩:=jW i _ aq hi iT jF
   rw[g10]
   exact⟨_,g9,s1,s2,s3,s4,by simp only[Ctx.ee];rw[if_neg (by omega),g6],by simp only[Ctx.ee];rw[if_neg (by omega)];exact g7.symm⟩
  ·obtain⟨h1,h2,h3⟩:=new i aq (by omega) jF
   rw[h3]
   have hc:R.length<=R.length+(i-kl)/\R.length+(i-kl)<R2.length:=by omega
   have he:kl+(R.length+(i-kl)-R.length)=i:=by omega
   exact⟨_,h2,s1,s2,s3,s4,by simp only[Ctx.ee];rw[if_pos hc,he],by simp only[Ctx.ee];rw[if_pos hc,he]⟩
 have CM:Fr (λb=>∃r x,c.R r=some x/\¬c.V r/\r∈ids/\c.ρ r=b) w w':=hx.fr.mono λb _ ⟨i,x,h1,h2,h3⟩=>by
  have sK:dz[i]?=some x:=h1
  have hi:i<ids.length:=by have:=(List.getElem?_eq_some_iff.1 sK).1;omega
  have iT:ids[i]?=some ids[i]:=aI hi
  obtain⟨row,g1,g2⟩:=Bn i _ iT
  exact⟨_,row,oE _ row g1,by simpa[Ctx.pass,iT]using h2,gC iT,by simpa[Ctx.pass,iT]using h3⟩
 have rest:∀r,r∉ids->r<R.length->R2.getD r none=(R.getD r none).map (Row.kill (ids.drop k)):=λr h1 h2=>by
  rw[Sn r h2,k3 r (λe=>h1 (gD e)),Sk,bG,if_neg (λe=>h1 (gE (oy.1 e)))]
 have gone:∀r,r∈ids.drop k->R2.getD r none=none:=λr h=>by
  rw[Sn r (bc r (gE h)),k3 r (λe=>Sm r e h),Sk,bG,if_pos (oy.2 h)]
 have inv:∀r x,(c.ee c' kl R.length R2).R r=some x->(∃i aq,c'.R i=some aq/\x=aq.jB f false/\(c.ee c' kl R.length R2).ρ r=c'.ρ i/\((c.ee c' kl R.length R2).V r↔c'.V i)/\(i<kl/\ids[i]?=some r/\(c.ee c' kl R.length R2).ρ r=c.ρ r/\((c.ee c' kl R.length R2).V r↔c.V r)\/R.length<=r/\kl<=i/\r=R.length+(i-kl)))\/
  (∃row,c.R r=some row/\x=row.kill (ids.drop k)/\r∉ids/\(c.ee c' kl R.length R2).ρ r=c.ρ r/\((c.ee c' kl R.length R2).V r↔c.V r)):=by
  intro r x j5
  have j5:R2.getD r none=some x:=j5
  by_cases mU:r∈ids
  ·by_cases hg:r∈ids.drop k
   ·rw[gone r hg]at j5;cases j5
   ·left
    have hp:=Ca mU
    have Cb:pos r ids 0<kl:=by
     by_cases h:pos r ids 0<kl
     ·exact h
     ·exact(hg (tC _ r hp (by omega))).elim
    obtain⟨lz,q1,q2⟩:=k2 _ r ((DC _ Cb).trans hp)
    have tE:c'.R (pos r ids 0)=some lz:=by rw[ku];exact q1
    obtain⟨row,g1,g2,g3,g4,g5,g6,g7,g8,g9,g10,_⟩:=jW _ r lz Cb hp tE
    rw[g9]at j5
    cases j5
    have e1:(c.ee c' kl R.length R2).ρ r=c.ρ r:=by simp only[Ctx.ee];rw[if_neg (by omega)]
    have e2:(c.ee c' kl R.length R2).V r↔c.V r:=by simp only[Ctx.ee];rw[if_neg (by omega)]
    exact⟨_,lz,tE,rfl,by rw[e1,g6],by rw[e2,g7],.inl ⟨Cb,hp,e1,e2⟩⟩
  ·by_cases hc:R.length<=r
   ·left
    have WA:r<R2.length:=by
     by_cases h:r<R2.length
     ·exact h
     ·rw[aV,aJ (by omega)]at j5;cases j5
    have hi:kl+(r-R.length)<aj.length:=by omega
    have tE:c'.R (kl+(r-R.length))=some aj[kl+(r-R.length)]:=by rw[ku];exact aI hi
    obtain⟨h1,h2,h3⟩:=new _ _ (by omega) tE
    rw[show R.length+(kl+(r-R.length)-kl)=r by omega]at h2
    rw[h2]at j5
    cases j5
    exact⟨_,_,tE,rfl,by simp only[Ctx.ee];rw[if_pos ⟨hc,WA⟩],by simp only[Ctx.ee];rw[if_pos ⟨hc,WA⟩],.inr ⟨hc,by omega,by omega⟩⟩
   ·right
    rw[rest r mU (by omega)]at j5
    simp only[fW]at j5
    obtain⟨row,h1,h2⟩:=j5
    exact⟨row,oE r row h1,h2.symm,mU,by simp only[Ctx.ee];rw[if_neg (by omega)],by simp only[Ctx.ee];rw[if_neg (by omega)]⟩
 have apart:∀r row i aq,c.R r=some row->r∉ids->¬c.V r->c'.R i=some aq->¬c'.V i->c'.ρ i≠c.ρ r:=λr row i aq h1 h2 h3 h4 h5 e=>by
  rcases Pj i aq h4 h5 with⟨j,s,jS,q1,q2,q3,q4,_⟩|q
  ·have:=hm.inj s r jS row q2 h1 q3 h3 (by rw[<-q4,e])
   subst this
   exact h2 (gC q1)
  ·have:=hm.lt h1 h3;omega
 have rM:ju (c.kill (ids.drop k)) w (c.ee c' kl R.length R2) w':=by
  refine⟨rfl,hx.cz.top,λb ik=>?_,λr x hr=>?_⟩
  ·have h1:(({c.pass w ids dz false with base:=0}:Ctx).kill (bO k (dz.length-k))).I b:=.inl ik
   exact⟨(hx.cz.I b h1).1,(hx.cz.I b h1).2⟩
  ·obtain⟨WB,row,c6,rfl⟩:=nK hr
   have WB:r∉ids.drop k:=λe=>by rw[oy.2 e]at WB;cases WB
   obtain⟨u1,u2,u3,u4⟩:=wZ (ids.drop k) row
   by_cases mU:r∈ids
   ·have hp:=Ca mU
    have Cb:pos r ids 0<kl:=by
     by_cases h:pos r ids 0<kl
     ·exact h
     ·exact(WB (tC _ r hp (by omega))).elim
    obtain⟨lz,q1,q2⟩:=k2 _ r ((DC _ Cb).trans hp)
    have tE:c'.R (pos r ids 0)=some lz:=by rw[ku];exact q1
    obtain⟨j0,g1,g2,g3,g4,g5,g6,g7,g8,g9,g10,g11⟩:=jW _ r lz Cb hp tE
    rw[c6]at g1;cases g1
    obtain⟨s1,s2,s3,s4⟩:=Kz f false lz
    refine⟨_,g9,s1.trans (g2.trans u1.symm),s2.trans (g3.trans u2.symm),s3.trans (g4.trans u3.symm),s4.trans (g5.trans u4.symm),by simp only[Ctx.ee];rw[if_neg (by omega)];rfl,by simp only[Ctx.ee];rw[if_neg (by omega)];rfl,λnv arr ha=>?_⟩
    rw[u2]at ha⊢
    exact g11 nv arr ha
   ·have sc:r<R.length:=by
     by_cases h:r<R.length
     ·exact h
     ·rw[hR,aV,aJ (by omega)]at c6;cases c6
    refine⟨row.kill (ids.drop k),?_,rfl,rfl,rfl,rfl,by simp only[Ctx.ee];rw[if_neg (by omega)];rfl,by simp only[Ctx.ee];rw[if_neg (by omega)];rfl,λnv arr ha=>⟨arr,?_,rfl⟩⟩
    ·show R2.getD r none=_
     rw[rest r mU sc,<-hR,c6];rfl
    ·have nv:¬c.V r:=nv
     show w'.heap[c.ρ r]?=_
     rw[CM.heap _ (hm.lt c6 nv) fun⟨s,x,h1,h2,h3,h4⟩=>mU (by rw[<-hm.inj s r x row h1 c6 h2 nv h4];exact h3)]
     exact ha
 refine⟨DE,⟨λr x j5=>?_,λr s x y hr hs v1 v2 he=>?_,λb ik=>⟨(hx.mem.fk b ik).1,λr x hr v=>?_⟩,hx.mem.top,hx.mem.kb⟩,rM,CM.mono λb _ ⟨r,x,h1,h2,_,h4⟩=>⟨r,x,h1,h2,h4⟩,λb ik=>?_,λr x hr v=>?_⟩
 ·rcases inv r x j5 with⟨i,aq,h1,rfl,h3,h4,_⟩|⟨row,h1,rfl,h2,h3,h4⟩
  ·exact Zsk DE (flat:=False) (.inl λb hb=>hb) h3 h4 (λ_ _ _ _ _=>trivial) (λe=>e.elim) (hx.mem.row i aq h1)
  ·have hk:=Zv4 (ks:=ids.drop k) (hm.row r row h1)
   exact uf rM h3 h4 (λnv=>CM.heap _ (hm.lt h1 nv) fun⟨s,x',g1,g2,g3,g4⟩=>h2 (by rw[<-hm.inj s r x' row g1 h1 g2 nv g4];exact g3)) hk
 ·rcases inv r x hr with⟨i,x',h1,_,h3,h4,h5⟩|⟨row,h1,_,h2,h3,h4⟩<;>rcases inv s y hs with⟨j,y',g1,_,g3,g4,g5⟩|⟨jS,g1,_,g2,g3,g4⟩
  ·have:i=j:=hx.mem.inj i j x' y' h1 g1 (λe=>v1 (h4.2 e)) (λe=>v2 (g4.2 e)) (by rw[<-h3,<-g3];exact he)
   subst this
   rcases h5 with⟨q0,q1,_⟩|⟨_,q1,q2⟩<;>rcases g5 with⟨p0,p1,_⟩|⟨_,p1,p2⟩
   ·rw[q1]at p1;exact Option.some.inj p1
   ·omega
   ·omega
   ·omega
  ·exact(apart s jS i x' g1 g2 (λe=>v2 (g4.2 e)) h1 (λe=>v1 (h4.2 e)) (by rw[<-h3,<-g3];exact he)).elim
  ·exact(apart r row j y' h1 h2 (λe=>v1 (h4.2 e)) g1 (λe=>v2 (g4.2 e)) (by rw[<-h3,<-g3];exact he.symm)).elim
  ·exact hm.inj r s row jS h1 g1 (λe=>v1 (h4.2 e)) (λe=>v2 (g4.2 e)) (by rw[<-h3,<-g3];exact he)
 ·rcases inv r x hr with⟨i,x',h1,_,h3,h4,h5⟩|⟨row,h1,_,h2,h3,h4⟩
  ·rw[h3];exact(hx.mem.fk b ik).2 i x' h1 (λe=>v (h4.2 e))
  ·have nv:¬c.V r:=λe=>v (h4.2 e)
   rw[h3]
   rcases hx.fk b ik with q|⟨s,z,q1,q2,q3,q4⟩|q
   ·rcases q with q|⟨q,_⟩
    ·exact(hm.fk b q).2 r row h1 nv
    ·cases q
   ·intro e
    have hz:dz[s]?=some z:=q2
    have Ig:=(List.getElem?_eq_some_iff.1 hz).1
    have iT:ids[s]?=some ids[s]:=aI (by omega)
    obtain⟨jS,g1,g2⟩:=Bn s _ iT
    have:=hm.inj _ r jS row (oE _ _ g1) h1 (by simpa[Ctx.pass,iT]using q3) nv (by rw[e];simpa[Ctx.pass,iT]using q4)
    exact h2 (by rw[<-this];exact gC iT)
   ·have:=hm.lt h1 nv;omega
 ·rcases hx.fk b ik with q|⟨s,z,q1,q2,q3,q4⟩|q
  ·rcases q with q|⟨q,_⟩
   ·exact .inl q
   ·cases q
  ·have hz:dz[s]?=some z:=q2
   have Ig:=(List.getElem?_eq_some_iff.1 hz).1
   have iT:ids[s]?=some ids[s]:=aI (by omega)
   obtain⟨jS,g1,g2⟩:=Bn s _ iT
   have hsk:=(Ny.1 q1).1
   exact .inr (.inl ⟨_,jS,oy.2 (tC s _ iT (by omega)),oE _ _ g1,by simpa[Ctx.pass,iT]using q3,by simpa[Ctx.pass,iT]using q4⟩)
  ·exact .inr (.inr q)
 ·rcases inv r x hr with⟨i,x',h1,_,h3,h4,h5⟩|⟨row,h1,_,h2,h3,h4⟩
  ·rcases h5 with⟨q0,q1,q2,q3⟩|⟨q0,q1,q2⟩
   ·obtain⟨row,g1,_⟩:=jW i r x' q0 q1 h1
    exact .inl ⟨⟨row,g1⟩,λe=>v (q3.2 e),q2⟩
   ·rcases Pj i x' h1 (λe=>v (h4.2 e))with⟨j,s,jS,p1,p2,p3,p4,_,p5⟩|p
    ·exact .inr (.inl ⟨s,jS,oy.2 (p5 q1),p2,p3,by rw[h3];exact p4⟩)
    ·exact .inr (.inr (by rw[h3];exact p))
  ·exact .inl ⟨⟨row,h1⟩,λe=>v (h4.2 e),h3⟩
def Ih(P:Program)(f:FuncId)(args:List Operand)(ev:Operand->D)(R:Rows)(ks:List Nat)(val:D)(R':Rows):Prop:=
 ∀ (c:Ctx) (w:World) (ρ:Operand->Value),Mem c w->c.base<=w.heap.size->(∀r,c.R r=R.getD r none)->(∀y∈args,Rep c w (ev y) (ρ y))->
  ∀K':Value->World->Prop,(∀v w' c',j6 ks c w c' w'->(∀r,c'.R r=R'.getD r none)->Rep c' w' val v->K' v w')->G8 P c.I f (args.map ρ) w λe w'=>∃v,e=.returned v/\K' v w'
theorem Yx{P:Program}{G:List bd}{M:Nat}(hG:jU P G){f:FuncId}{k:Nat}{args:List Operand}{ev:Operand->D}{R:Rows}{K:List Nat->D->Rows->Prop}
 (mo:pK G f=some k) (h:Jd G M f k (args.map ev) R K):∃ks val R' x,K ks val R'/\px G f=some x/\(x.refs≠[])/\(∀j,da j ks=true->M<=j)/\Ih P f args ev R ks val R':=by
 unfold Jd at h
 split at h
 ·rename_i x hx
  have w4:x.gone=some k:=by simpa[pK,hx]using mo
  obtain⟨dx,hf⟩:=He hG hx
  split at h
  ·rename_i az dz has jh
   simp only[de,aE]at h
   obtain⟨⟨⟨⟨hv,nm⟩,h1,h2⟩,h3,h4⟩,h⟩:=h
   generalize KA:mZ R x.refs (args.map ev)=ids at*
   have wx:=Nz.1 h1
   have jH:=Nz.1 h2
   have lH:=NA.1 h3
   have Ii:mh x.refs (args.map ev)=[]:=by
    revert hv
    cases mh x.refs (args.map ev)<;>simp
   have hrefs:x.refs≠[]:=λe=>by rw[e]at nm;simp at nm
   have main:∀res aj,Ij R (ids.take k) (ids.drop k) res aj K->uG P x.f k az dz res aj->
    ∃ks val R' y,K ks val R'/\px G f=some y/\(y.refs≠[])/\(∀j,da j ks=true->M<=j)/\Ih P f args ev R ks val R':=by
    intro res aj hK hA
    simp only[Ij,de,D.c7,nP]at hK
    obtain⟨hle,hK⟩:=hK
    have hle:=lE hle
    refine⟨_,_,_,x,hK,hx,hrefs,λj hj=>lE (List.all_eq_true.1 h4 j (oy.1 hj)),λc w ρ hm hb hR ez K' rU=>?_⟩
    have oE:∀r row,r∈ids->R.getD r none=some row->c.R r=some row:=λr row _ e=>by rw[hR];exact e
    have pJ:mN c R:=λr row aq g1 g2=>by rw[hR,g2]at g1;exact(Option.some.inj g1).symm
    have hn:=WC (len:=false) (w:=w) oE jh
    have gb:=NB (len:=false) (ρ:=ρ) hm pJ hn has (λe=>(e Ii).elim) (λr hr=>by rw[Ii]at hr;cases hr) wx ez
    have mQ:=hA _ w _ (Zo8 (Zl9 (len:=false) hm oE lH jH jh)) rfl (λr=>rfl) (Qz5 gb)
    rw[hf]at mQ
    refine mQ.mono (λb hb=>.inl hb) (λe w' tF=>?_)
    obtain⟨v,c',he,oh,ku,lr⟩:=tF
    have:=Zgy (k:=k) hm hR lH jh hle oh ku rfl
    exact⟨v,he,rU v w' _ this.2 (λr=>rfl) (Zkh this.1 (flat:=False) (.inl λb hb=>hb) (λ_=>trivial) (λe=>e.elim) lr)⟩
   split at h
   ·rename_i α v res aj hm
    exact main _ _ (h v rfl) (dx.So k w4 _ _ _ _ _ _ hm)
   ·rename_i p α v res aj hm
    exact main _ _ (h.2 v rfl) (dx.Ik k w4 _ _ _ _ _ _ _ hm h.1)
   ·exact h.elim
  ·exact h.elim
 ·exact h.elim
theorem Zwm(hG:jU P G)(hy:f<YB){guard:Option (Nat×Bool)}
 (mo:pK G f=some k) (h:Jd G M f k (args.toList.map ev) R K):∃ks val R' x,K ks val R'/\px G f=some x/\(x.refs≠[])/\(∀j,da j ks=true->M<=j)/\CB P ⟨dst,.call ⟨.value (.func f),args,dh⟩,type,pos',after,guard⟩ ev R ks val R':=by
 obtain⟨ks,val,R',x,h1,h2,h3,h4,h5⟩:=Yx hG mo h
 obtain⟨dx,hf⟩:=He hG h2
 refine⟨ks,val,R',x,h1,h2,h3,h4,λc w a hm hb hR ez K' Q rU=>?_⟩
 subst hf
 exact Zka dx rfl hy ((h5 c w a.eval hm hb hR (λy hy=>ez y (by simp[Op.operands,Call.operands];exact .inr (by simpa using hy))) (λv w'=>K' (a.put dst v) w') λv w' c'=>rU v w' c').1 hy)
def Ctx.only(c:Ctx)(ks:List Nat):Ctx:={c with R:=λr=>if da r ks=true then(match c.R r with|some row=>if row.box=true then none else some row|none=>none)else none}
theorem NC{c:Ctx}(h:(c.only ks).R r=some x):r∈ks/\c.R r=some x/\x.box=false:=by
 simp only[Ctx.only]at h
 split at h
 ·rename_i hm
  split at h
  ·rename_i row hr
   split at h
   ·cases h
   ·rename_i hb
    cases h
    exact⟨oy.1 hm,hr,by simpa using hb⟩
  ·cases h
 ·cases h
theorem vv{c:Ctx}(hm:r∈ks)(hr:c.R r=some x)(hb:x.box=false):(c.only ks).R r=some x:=by
 simp[Ctx.only,oy.2 hm,hr,hb]
theorem zV{c:Ctx}(hm:Mem c w)(ks:List Nat):Mem (c.only ks) w:=by
 refine⟨λr x hr=>?_,λr s x y hr hs=>?_,λb hb=>⟨(hm.fk b hb).1,λr x hr v=>?_⟩,hm.top,hm.kb⟩
 ·obtain⟨_,h1,h2⟩:=NC hr
  rcases hm.row r x h1 with h|⟨h0,arr,ha,hs,hx⟩
  ·exact .inl h
  ·refine .inr ⟨h0,arr,ha,hs,?_⟩
   rw[if_neg (by rw[h2];simp)]at hx⊢
   exact hx
 ·exact hm.inj r s x y (NC hr).2.1 (NC hs).2.1
 ·exact(hm.fk b hb).2 r x (NC hr).2.1 v
theorem Zps{c:Ctx}(h:Zk R d=some d')(hl:∀r∈ou d,r∈ks)(hr:dc c w d v):dc (c.only ks) w d v:=by
 cases d<;>simp only[Zk]at h<;>try(cases h;done)
 case all r=>
  obtain⟨row,g1,g2,g3⟩:=hr
  exact⟨row,vv (hl r (by simp[ou])) g1 g2,g2,g3⟩
 case own r o n=>
  obtain⟨row,g1,g2,g3,g4⟩:=hr
  exact⟨row,vv (hl r (by simp[ou])) g1 g2,g2,g3,g4⟩
 all_goals exact hr
theorem Zrj{c:Ctx}{w:World}{R:Rows}{ks:List Nat}:∀{ds oP:List D} {vs:List Value},KB R ds=some oP->(∀r∈rO ds,r∈ks)->jG c w ds vs->jG (c.only ks) w ds vs
 |[],_,[],_,_,_=>trivial
 |d ::ds,oP,v::vs,h,hl,hr=>by
  simp only[KB]at h
  split at h
  ·rename_i x xs h1 h2
   exact⟨Zps h1 (λr e=>hl r (by simp[rO,e])) hr.1,Zrj h2 (λr e=>hl r (by simp[rO,e])) hr.2⟩
  ·cases h
 |[],_,_::_,_,_,h=>h.elim
 |_::_,_,[],_,_,h=>h.elim
theorem yV{c:Ctx}(h:conv R d=some d')(hl:∀r∈Gq d,r∈ks)(hr:Rep c w d v):Rep (c.only ks) w d v:=by
 cases d with
 |agg cs=>
  simp only[conv,fW]at h
  obtain⟨xs,h1,_⟩:=h
  obtain⟨vs,hv,hx⟩:=hr
  exact⟨vs,hv,Zrj h1 hl hx⟩
 |dw ds=>simp[conv,Zk]at h
 |dead=>trivial
 |_=>
  simp only[conv]at h
  simp only[Rep,VRep]at hr⊢
  exact Zps h hl hr
theorem Zho{R:Rows}{f:Nat->Nat}{ev:Operand->D}:∀{xs:List Operand} {az:List D},tG R f [] (xs.map ev)=some az->∀x∈xs,∃y,conv R (ev x)=some y
 |[],_,_,x,hx=>by simp at hx
 |y ::xs,az,h,x,hx=>by
  simp only[fX,tG]at h
  split at h
  ·rename_i z zs h1 h2
   simp only[cQ]at hx
   rcases hx with rfl|hx
   ·exact⟨_,h1⟩
   ·exact Zho h2 x hx
  ·cases h
theorem Zit{ev:Operand->D}{r:Nat}:∀{xs:List Operand} {x:Operand},x∈xs->r∈Gq (ev x)->r∈mh [] (xs.map ev)
 |y::xs,x,hx,hr=>by
  simp only[fX,mh,cB]
  simp only[cQ]at hx
  rcases hx with rfl|hx
  ·exact .inl hr
  ·exact .inr (Zit hx hr)
theorem Quh{r:Nat}:∀{l ids:List Nat},r∈lW ids l->r∈ids\/r∈l
 |[],ids,h=>.inl h
 |x ::l,ids,h=>by
  simp only[lW]at h
  split at h
  ·rcases Quh h with h|h
   ·exact .inl h
   ·exact .inr (by simp[h])
  ·rcases Quh h with h|h
   ·simp only[cB,List.mem_singleton]at h
    rcases h with h|h
    ·exact .inl h
    ·exact .inr (by simp[h])
   ·exact .inr (by simp[h])
theorem qw{c:Ctx}(h:Rep c w d v):Rep {c with base:=0} w d v:=by
 cases d with
 |dw ds=>obtain⟨vs,hv,hx⟩:=h;exact⟨vs,hv,Qz5 hx⟩
 |dead=>trivial
 |_=>exact Rep.LB (Zhj (Rep.toV (λds e=>by cases e) (λe=>by cases e) h))
theorem vV(hG:jU P G){guard:Option (Nat×Bool)}
 (mo:pK G f=none) (h:DF G M f (args.toList.map ev) R K):∃ks val R' x,K ks val R'/\px G f=some x/\(∀j,da j ks=true->M<=j)/\CB P ⟨dst,.call ⟨.value (.func f),args,dh⟩,type,pos',after,guard⟩ ev R ks val R':=by
 unfold DF at h
 split at h
 ·rename_i x hx
  have w4:x.gone=none:=by simpa[pK,hx]using mo
  obtain⟨dx,hf⟩:=He hG hx
  split at h
  ·rename_i az dz has jh
   simp only[de,aE]at h
   obtain⟨⟨⟨nm,Ap⟩,h3,wx,h4⟩,h⟩:=h
   have JaI:∀r,r∈lW [] (mh [] (args.toList.map ev))->r∈mh [] (args.toList.map ev):=λr hr=>by
    rcases Quh hr with h|h
    ·cases h
    ·exact h
   generalize KA:lW [] (mh [] (args.toList.map ev))=ids at*
   have lH:=NA.1 h3
   have wx:=Nz.1 wx
   have main :∀res aj,Ij R [] ids res aj K->kM P x.f az [] res aj->
    ∃ks val R' y,K ks val R'/\px G f=some y/\(∀j,da j ks=true->M<=j)/\CB P ⟨dst,.call ⟨.value (.func f),args,dh⟩,type,pos',after,guard⟩ ev R ks val R':=by
    intro res aj hK hA
    simp only[Ij,de,D.c7,nP]at hK
    obtain⟨_,hK⟩:=hK
    refine⟨_,_,_,x,hK,hx,λj hj=>lE (List.all_eq_true.1 h4 j (oy.1 hj)),λc w a hm hb hR ez K' Q rU=>?_⟩
    have pJ:mN (c.only ids) R:=λr row aq g1 g2=>by
     have:=(NC g1).2.1
     rw[hR,g2]at this;exact(Option.some.inj this).symm
    have hmo:=zV hm ids
    have hn:=WC (c:=c.only ids) (R:=R) (ids:=[]) (dz:=[]) (len:=true) (w:=w) (λr row e=>by cases e) rfl
    have Jak:∀y∈args.toList,Rep (c.only ids) w (ev y) (a.eval y):=λy hy=>by
     obtain⟨z,hz⟩:=Zho has y hy
     exact yV hz (λr hr=>wx r (Zit hy hr)) (ez y (by simp[Op.operands,Call.operands];exact .inr (by simpa using hy)))
    rw[Ze3 (λr=>r) (λr=>pos r [] 0)]at has
    have gb:=NB (len:=true) (ρ:=a.eval) hmo pJ hn has (λ_=>rfl) (λr _ e=>by cases e) (λr e=>by rw[Z3s]at e;cases e) Jak
    have mQ:=hA _ w _ (Zl9 (R:=R) (len:=true) hmo (λr row e=>by cases e) (by simp) (λr e=>by simp[DG]at e) rfl) rfl (λr=>rfl) gb
    refine Zka dx hf (dx.real w4) (mQ.mono λe w' tF=>?_)
    obtain⟨v,c',he,oh,ku,lr⟩:=tF
    have Ht:∀r x,((c.only ids).pass w [] [] true).R r=some x->False:=λr x h=>by simp[Ctx.pass]at h
    obtain⟨jH,Bn⟩:=Gp jh
    have hxK:j6 (bO 0 (dz.length-0)) {c.pass w ids dz false with base:=0} w {c' with base:=0} w':=by
     refine⟨Zo8 oh.mem,⟨rfl,oh.cz.top,λb ik=>?_,λr x hr=>?_⟩,oh.fr.mono λb _ ⟨r,x,h1,_⟩=>(Ht r x h1).elim,λb ik=>?_,λr x hr hv=>?_⟩
     ·have:c.I b:=by
       rcases ik with h|⟨h,_⟩
       ·exact h
       ·cases h
      exact⟨(oh.cz.I b (.inl this)).1,(oh.cz.I b (.inl this)).2⟩
     ·obtain⟨h1,row,h2,_⟩:=nK hr
      have h2':dz[r]?=some row:=h2
      have:=(List.getElem?_eq_some_iff.1 h2').1
      rw[Ny.2 (by omega)]at h1;cases h1
     ·rcases oh.fk b ik with h|h
      ·rcases h with h|⟨_,r,row,g1,g2,g3,_,g5⟩
       ·exact .inl (.inl h)
       ·obtain⟨k1,k2,k3⟩:=NC g1
        have hp:=Ca k1
        obtain⟨jS,q1,q2⟩:=Bn _ r hp
        have hl:=(List.getElem?_eq_some_iff.1 q2).1
        exact .inr (.inl ⟨_,_,Ny.2 (by omega),q2,by simpa[Ctx.pass,Ctx.only,hp]using g2,by simpa[Ctx.pass,Ctx.only,hp]using g5⟩)
      ·exact .inr (.inr h)
     ·rcases oh.oO r x hr hv with⟨⟨y,h1⟩,_⟩|h
      ·exact(Ht r y h1).elim
      ·exact .inr (.inr h)
    have:=Zgy (k:=0) (c':={c' with base:=0}) hm hR lH jh (by simp) hxK ku rfl
    simp only[List.take_zero,List.drop_zero]at this
    exact⟨v,he,rU v w' _ this.2 (λr=>rfl) (Zkh this.1 (flat:=False) (.inl λb hb=>hb) (λ_=>trivial) (λe=>e.elim) (qw lr))⟩
   split at h
   ·rename_i α v res aj hm
    exact main _ _ (h v rfl) (dx.abs w4 _ _ _ _ _ _ hm).1
   ·rename_i p α v res aj hm
    exact main _ _ (h.2 v rfl) (dx.lX w4 _ _ _ _ _ _ _ hm h.1).1
   ·exact h.elim
  ·exact h.elim
 ·exact h.elim
