import Derived.Test.YthjfindbamdacaaGreatDoorAuditAcceptsFo
import Derived.Laws.Append
import Derived.Laws.CopyRow
import Derived.Laws.AppendOwn
open List renaming eq_nil_of_length_eq_zero->fO,map_cons->fQ,append_assoc->fG,getElem?_take->aU,getElem?_drop->fS,getElem?_toArray->aY,getD->aK,length_take->bD,length_drop->bF,getElem?_append_left->aZ,size_toArray->bA,getElem?_append_right->bB,getElem?_eq_none->aM,take_of_length_le->fL,getElem?_eq_getElem->cG,range'->bK,mem_of_getElem?->fV,mem_of_mem_take->cX,mem_of_mem_drop->cY,mem_cons->cS,mem_append->bX
open Bool renaming false_eq_true->aN
open Option renaming map_eq_some_iff->fP
open Nat renaming add_zero->bG,succ_mul->aW,mul_le_mul_right->aV,zero_add->aX,mul_comm->fT,le_refl->aO,add_mul->bC,le_trans->bH,le_mul_of_pos_right->fU
open Array renaming ext'->fR
set_option linter.all false
namespace Go.GD
open Go
variable {G:List bf}{I:ag}{K:List Nat->D->Rows->Prop}{M k n r sy sz:Nat}{P:Program}{R:Rows}{after:Array Edge}{args:Array Operand}{arr:Array Value}{d d' y:D}{dst:Option Tmp}{ev:Operand->D}{f:FuncId}{i:TypeInfo}{ks:List Nat}{pos':String}{row x:Row}{t tx ty type:TypeId}{dh:Array TypeId}{ux:TypeDesc}{v z:Value}{w w':World}{ys:ak}
section
variable {c:Ctx} {w:World} {ks:List Nat}
theorem wJ(ks:List Nat)(row:Row):(row.kill ks).box=row.box/\(row.kill ks).ty=row.ty/\(row.kill ks).sz=row.sz/\(row.kill ks).es.l.length=row.es.l.length:=by
 unfold Row.kill;split<;>exact⟨rfl,rfl,rfl,rfl⟩
theorem Z0a:∀{e:List D},(D.kI ks e).length=e.length
 |[]=>rfl
 |d::l=>by simp[D.kI,Z0a (e:=l)]
theorem Zcd(gv:∀f cs,d≠.gq f cs)(h:cz c w d v):cz (c.kill ks) w (d.ez ks) v:=by
 have key:∀r row,cf r ks=false->c.R r=some row->(c.kill ks).R r=some (row.kill ks):=λr row hr cq=>by simp[Ctx.kill,hr,cq]
 have h1:=cz.one h
 cases d with
 |all r=>
  simp only[D.ez]
  cases hr:cf r ks with
  |true=>exact h1
  |false=>
   obtain⟨row,g1,g2,g3⟩:=h
   obtain⟨s1,s2,s3,s4⟩:=wJ ks row
   exact⟨_,key r row hr g1,s1.trans g2,by rw[s2,s3,s4];exact g3⟩
 |own r o n=>
  simp only[D.ez]
  cases hr:cf r ks with
  |true=>exact h1
  |false=>
   obtain⟨row,g1,g2,g3,g4⟩:=h
   obtain⟨s1,s2,s3,s4⟩:=wJ ks row
   exact⟨_,key r row hr g1,s1.trans g2,by rw[s4];exact g3,by rw[s2,s3];exact g4⟩
 |ptr r i off=>
  simp only[D.ez]
  cases hr:cf r ks with
  |true=>exact h1
  |false=>
   obtain⟨row,g1,g2,g3,g4⟩:=h
   obtain⟨s1,s2,s3,s4⟩:=wJ ks row
   exact⟨_,key r row hr g1,g2,by rw[s4];exact g3,by rw[s3];exact g4⟩
 |pa r i off len k n=>
  simp only[D.ez]
  cases hr:cf r ks with
  |true=>exact h1
  |false=>
   obtain⟨g0,row,g1,g2,g3,g4⟩:=h
   obtain⟨s1,s2,s3,s4⟩:=wJ ks row
   exact⟨g0,_,key r row hr g1,g2,by rw[s4];exact g3,by rw[s3];exact g4⟩
 |c9 r=>
  simp only[D.ez]
  cases hr:cf r ks with
  |true=>exact h1
  |false=>
   rcases h with h|⟨row,g1,g2,g3,g4⟩
   ·exact .inl h
   ·obtain⟨s1,s2,s3,s4⟩:=wJ ks row
    exact .inr ⟨_,key r row hr g1,g2,by rw[s4];exact g3,by rw[s3];exact g4⟩
 |gq f cs=>exact absurd rfl (gv f cs)
 |_=>exact h
theorem xw(gv:∀f cs,d≠.gq f cs)(h:∀r∈nU d,cf r ks=false):d.ez ks=d:=by
 cases d<;>first|rfl|(simp only[D.ez];rw[h _ (by simp[nU])])|exact absurd rfl (gv _ _)
theorem Ta(h:cz c w d v):cz (c.kill ks) w (d.ez ks) v:=by
 by_cases e:∃g cs,d=.gq g cs
 ·obtain⟨g,cs,rfl⟩:=e
  have h1:=cz.one h
  simp only[D.ez]
  cases hd:nV (oJ cs) ks with
  |false=>exact h1
  |true=>
   obtain⟨us,hv,hu⟩:=h
   exact⟨us,hv,ZI (c:=c) (w:=w) (c':=c.kill ks) (w':=w) (S:=λr=>cf r ks=false) (λd v q1 q2 q3=>by have:=Zcd (ks:=ks) q1 q3;rwa [xw q1 q2]at this) (λ_ hb=>⟨hb,rfl⟩) (λr hr=>by
    have:=UR.1 hd r hr
    cases hm:cf r ks with
    |false=>rfl
    |true=>exact(this (oA.1 hm)).elim) hu⟩
 ·exact Zcd (λf cs e'=>e ⟨f,cs,e'⟩) h
theorem Zhq:∀{ds:List D} {vs:List Value},jq c w ds vs->jq (c.kill ks) w (D.kI ks ds) vs
 |[],[],_=>trivial
 |_::_,_::_,h=>⟨Ta h.1,Zhq h.2⟩
 |[],_::_,h=>h.elim
 |_::_,[],h=>h.elim
theorem Zpt(h:VRep c w d v):VRep (c.kill ks) w (d.kill ks) v:=by
 cases d with
 |agg cs=>obtain⟨vs,hv,hr⟩:=h;exact⟨vs,hv,Zhq hr⟩
 |_=>
  have:=Ta (ks:=ks) (VRep.toC (λcs e=>by cases e) h)
  exact VRep.Fi this
theorem Zj3:∀{ds:List D} {vs:List Value},kp c w ds vs->kp (c.kill ks) w (D.pX ks ds) vs
 |[],[],_=>trivial
 |_::_,_::_,h=>⟨Zpt h.1,Zj3 h.2⟩
 |[],_::_,h=>h.elim
 |_::_,[],h=>h.elim
theorem W3(h:Rep c w d v):Rep (c.kill ks) w (d.gr ks) v:=by
 cases d with
 |dt ds=>obtain⟨vs,hv,hr⟩:=h;exact⟨vs,hv,Zj3 hr⟩
 |dead=>trivial
 |_=>
  have:=Zpt (ks:=ks) (Rep.toV (λds e=>by cases e) (λe=>by cases e) h)
  exact Rep.KW this
theorem Zcb:∀{ds:List D} {arr:Array Value} {off:Nat},kU c w ds arr off->kU (c.kill ks) w (D.kI ks ds) arr off
 |[],_,_,_=>trivial
 |_::_,_,_,⟨⟨v,hv,h1⟩,h2⟩=>⟨⟨v,hv,Ta h1⟩,Zcb h2⟩
theorem Zqd(h:Fl c w r row):Fl (c.kill ks) w r (row.kill ks):=by
 obtain⟨s1,s2,s3,s4⟩:=wJ ks row
 rcases h with⟨h0,h1,h2,h3⟩|⟨h0,arr,ha,hs,hx⟩
 ·refine .inl ⟨h0,s1.trans h1,?_,by rw[s3];exact h3⟩
  rw[h2]at s4;exact fO s4
 ·refine .inr ⟨h0,arr,by rw[s2];exact ha,by rw[s3];exact hs,?_⟩
  rw[s1,s3]
  split
  ·rename_i hb
   simp only[hb,if_true]at hx
   obtain⟨e,k1,k2,k3,k4⟩:=hx
   obtain⟨box,ty,sz,es⟩:=row
   simp only at hb k1 k2 k3 k4
   subst hb;subst k1
   exact⟨D.kI ks e,rfl,by rw[Z0a];exact k2,k3,Zcb k4⟩
  ·rename_i hb
   simp only[hb,aN,if_false]at hx
   have he:(row.kill ks).es=row.es:=by
    unfold Row.kill
    split
    ·simp at hb
    ·rfl
   rw[he];exact hx
theorem Q3(h:(c.kill ks).R r=some x):cf r ks=false/\∃row,c.R r=some row/\x=row.kill ks:=by
 simp only[Ctx.kill]at h
 cases hb:cf r ks with
 |true=>rw[hb]at h;simp at h
 |false=>
  rw[hb]at h
  simp only[aN,if_false,fP]at h
  obtain⟨row,h1,h2⟩:=h
  exact⟨rfl,row,h1,h2.symm⟩
theorem ZJ(hm:Mem c w):Mem (c.kill ks) w:=by
 refine⟨λr x hx=>?_,λr s x y hx hy v1 v2 he=>?_,λb hb=>⟨(hm.fu b hb).1,λr x hx v=>?_⟩,hm.top,hm.kY⟩
 ·obtain⟨_,row,h1,rfl⟩:=Q3 hx
  exact Zqd (hm.row r row h1)
 ·obtain⟨_,row,h1,_⟩:=Q3 hx
  obtain⟨_,ao,h2,_⟩:=Q3 hy
  exact hm.inj r s row ao h1 h2 v1 v2 he
 ·obtain⟨_,row,h1,_⟩:=Q3 hx
  exact(hm.fu b hb).2 r row h1 v
end
theorem Zom:∀{l:List Nat},nV l []=true
 |[]=>rfl
 |x::l=>by simp only[nV,cf];exact Zom
theorem WZ(d:D):d.ez []=d:=by
 cases d with
 |gq f cs=>simp only[D.ez,Zom]
 |_=>rfl
theorem WY:∀{ds:List D},D.kI [] ds=ds
 |[]=>rfl
 |d::l=>by simp only[D.kI,WZ,WY (ds:=l)]
theorem Z4y(row:Row):row.kill []=row:=by
 unfold Row.kill;split
 ·simp[WY]
 ·rfl
theorem qR(c:Ctx):c.kill []=c:=by
 obtain⟨ρ,R,V,I,base,top,X⟩:=c
 simp only[Ctx.kill,cf,aN,if_false]
 congr 1
 funext r
 cases R r<;>simp[Z4y]
theorem lY.toK{c c':Ctx}(h:lY c w c' w'):jJ [] c w c' w':=
 ⟨h.mem,by rw[qR];exact h.cg,h.fr,λb hb=>(h.fu b hb).imp id .inr,λr ao h1 h2=>(h.oy r ao h1 h2).imp id .inr⟩
theorem QG{ks:List Nat}:∀{R:Rows} {i r:Nat},(su ks R i).getD r none=if cf (i+r) ks=true then none else(R.getD r none).map (Row.kill ks)
 |[],i,r=>by simp[su]
 |x::l,i,0=>by
  simp only[su,bG]
  cases cf i ks<;>cases x<;>simp
 |x::l,i,r+1=>by
  have:=QG (ks:=ks) (R:=l) (i:=i+1) (r:=r)
  rw[show i+1+r=i+(r+1) by omega]at this
  simpa[su]using this
theorem JU{ks:List Nat}:∀{R:Rows} {i:Nat},(su ks R i).length=R.length
 |[],_=>rfl
 |x::l,i=>by simp[su,JU (R:=l)]
def sD(ks:List Nat)(env:List (Nat×D)):List (Nat×D):=env.map λx=>(x.1,x.2.gr ks)
theorem ID{ks:List Nat}:∀{env:List (Nat×D)} {K:List (Nat×D)->Prop},Zj ks env K↔K (sD ks env)
 |[],_=>Iff.rfl
 |(t,d)::l,K=>by
  simp only[Zj,D.cu]
  rw[ID (env:=l) (K:=λl=>K ((t,d.gr ks)::l))]
  rfl
theorem Ch{ks:List Nat}:∀{env:List (Nat×D)} {t:Nat},look (sD ks env) t=(look env t).gr ks
 |[],_=>rfl
 |(u,d)::l,t=>by
  simp only[sD,fQ,look]
  cases Nat.beq u t with
  |true=>rfl
  |false=>exact Ch (env:=l)
theorem Qoi(w:World){t tx ty e:TypeId}(ht:P.underlying t=some (.slice e))(pM:P.underlying tx=some ux)(hx:∀k,ux≠.int k)(hi:P.info? e=some i)
 {a:Option Addr} {n cap m:Nat} {x:Value} {news:List Value} (hl:(Builtin.lenOf x).run P w=.ok m w) (hf:(Builtin.firstCells i.size m x).run P w=.ok news.toArray w) (k9:n+m<=cap) {w':World}
 (jZ:∀b,a=some b->(storeCells (b.add (n*i.size)) news).run P w=.ok () w') (oW:a=none->w'=w):
 (Builtin.append_ #[t,tx] ty #[.slice a n cap,x]).run P w=.ok (.slice a (n+m) cap) w':=by
 have hz:(match ux with|.int _=>true|_=>false)=false:=by
  cases ux<;>first|rfl|exact absurd rfl (hx _)
 cases a with
 |none=>
  have:=oW rfl
  subst this
  simp[Builtin.append_,run_underlying ht,run_underlying pM,hz,sizeOf,typeInfo,hi,hl,k9,hf]
 |some b=>simp[Builtin.append_,run_underlying ht,run_underlying pM,hz,sizeOf,typeInfo,hi,hl,k9,hf,jZ b rfl]
theorem Qo0(w:World){t tx ty e:TypeId}(ht:P.underlying t=some (.slice e))(pM:P.underlying tx=some ux)(hx:∀k,ux≠.int k)(hi:P.info? e=some i)(hz:i.zero=some z)
 {a:Option Addr} {n cap m:Nat} {x:Value} {lj news:List Value} (hl:(Builtin.lenOf x).run P w=.ok m w) (hf:(Builtin.firstCells i.size m x).run P w.drew=.ok news.toArray w.drew) (hfo:(Builtin.firstCells i.size n (.slice a n cap)).run P w.drew=.ok lj.toArray w.drew)
 (hg:cap<n+m) (h63:((n+m:Nat):Int)<=9223372036854775807) (rB:Builtin.nextslicecap (n+m) cap*i.bytes<=281474976710656):
 (Builtin.append_ #[t,tx] ty #[.slice a n cap,x]).run P w=.ok (.slice (some ⟨w.heap.size,0,none⟩) (n+m) (grownCap w (n+m) cap e))
  (w.drew.alloc (.cells (lj.toArray++news.toArray++Builtin.zeroCells z.cells (grownCap w (n+m) cap e-(n+m))) e)):=by
 have hn:¬(n+m<=cap):=by omega
 have I2:¬(9223372036854775807<((n:Int)+(m:Int))):=by omega
 have ZK:¬(281474976710656<Builtin.nextslicecap (n+m) cap*i.bytes):=by omega
 simp[Builtin.append_,run_underlying ht,run_underlying pM,sizeOf,typeInfo,zeroValue,hi,hz,hl,hn,I2,ZK,Question.forced,hf,hfo,newRow,grownCap]
 congr 2
 apply fR
 simp[fG]
theorem zw{b o:Nat}{fz:Nat×Nat}(h:w.heap[b]?=some (.cells arr ty fz))(j:Nat):w.cell? ((⟨b,o,none⟩:Addr).add j)=arr[o+j]? :=by
 rw[F4]
 unfold World.cell?
 simp[h]
theorem Zhv{es:List (List D)}{off sz:Nat}(h:iK I w es arr off sz)(h0:0<sz):∃news:List Value,news.length=es.length*sz/\(∀j u,news[j]?=some u->arr[off+j]?=some u)/\iK I w es news.toArray 0 sz:=by
 have fy:es.length*sz<=arr.size-off:=by
  by_cases he:es.length=0
  ·rw[he];omega
  ·obtain⟨h1,h2⟩:=wF.1 h (es.length-1) (by omega)
   obtain⟨v,hv,_⟩:=uk.1 h2 (sz-1) (by omega)
   have bz:=(Array.getElem?_eq_some_iff.1 hv).1
   have:es.length*sz=(es.length-1)*sz+sz:=by
    rw[show es.length*sz=(es.length-1+1)*sz by congr 1;omega,aW]
   omega
 refine⟨(arr.toList.drop off).take (es.length*sz),by simp;omega,λj u hj=>?_,?_⟩
 ·rw[aU]at hj
  split at hj
  ·rw[fS]at hj
   simpa using hj
  ·cases hj
 ·rw[wF]at h⊢
  intro i hi
  obtain⟨h1,h2⟩:=h i hi
  refine⟨h1,?_⟩
  rw[uk]at h2⊢
  intro j hj
  obtain⟨v,hv,hp⟩:=h2 j hj
  refine⟨v,?_,hp⟩
  have bz:i*sz+j<es.length*sz:=by
   have:=aV sz (show i+1<=es.length by omega)
   rw[aW]at this
   omega
  simp only[aX,aY]
  rw[aU,if_pos bz,fS,<-hv]
  simp[Nat.add_assoc]
theorem iK.one{es:List (List D)}{news:List Value}(h:iK I w es news.toArray 0 sz)(hl:news.length=es.length*sz):∀u∈news,u.oneCell'=true:=by
 intro u hu
 obtain⟨j,hj⟩:=List.getElem?_of_mem hu
 have bz:=(List.getElem?_eq_some_iff.1 hj).1
 have h0:0<sz:=by
  rcases Nat.eq_zero_or_pos sz with h0|h0
  ·subst h0;simp at hl;rw[hl]at bz;simp at bz
  ·exact h0
 have hi:j/sz<es.length:=by rw[Nat.div_lt_iff_lt_mul h0];omega
 obtain⟨h1,h2⟩:=wF.1 h (j/sz) hi
 obtain⟨v,hv,hp⟩:=uk.1 h2 (j%sz) (by rw[h1];exact Nat.mod_lt _ h0)
 have e:0+j/sz*sz+j%sz=j:=by rw[aX,fT];exact Nat.div_add_mod j sz
 rw[e,aY,hj]at hv
 cases hv
 exact ga.one hp
theorem Zll(s:List UInt8):iK I w (ak.ints .u8 (iW s)).l (s.map λb=>Value.int .u8 b.toNat).toArray 0 1:=by
 rw[wF]
 intro i hi
 have iw:i<s.length:=by simpa[iW,ak.l]using hi
 have he:(ak.ints .u8 (iW s)).l.getD i []=[.int .u8 s[i].toNat]:=by simp[iW,ak.l,aK,iw]
 rw[he]
 refine⟨rfl,?_⟩
 simp only[Cb,AE,sK,r7,Q6,sL,Q4,sM,tN,uq,ur,uv,uw,uy,uz,uA,uB,uD,and_true]
 exact⟨_,by simp[iw],rfl⟩
def Src(P:Program)(c:Ctx)(w:World)(v:Value)(ys:List (List D))(sz:Nat):Prop:=
 ∃news:List Value,news.length=ys.length*sz/\(Builtin.lenOf v).run P w=.ok ys.length w/\(∀k,k<=ys.length->∀w',w'.heap=w.heap->(Builtin.firstCells sz k v).run P w'=.ok (news.take (k*sz)).toArray w')/\iK c.I w ys news.toArray 0 sz
theorem JV{c:Ctx}(h0:0<sz){es:List (List D)}{a:Option Addr}{cap:Nat}(iq:es=[]\/sy=sz/\∃b off arr ty fz,a=some ⟨b,off,none⟩/\w.heap[b]?=some (.cells arr ty fz)/\iK c.I w es arr off sy):
 Src P c w (.slice a es.length cap) es sz:=by
 rcases iq with iq|⟨hss,b,off,arr,ty,fz,ha,hh,hE⟩
 ·subst iq
  refine⟨[],by simp,by simp[Builtin.lenOf],λk hk w' _=>?_,by simp[pY,oz]⟩
  have AD:k=0:=by simpa using hk
  subst AD
  cases a with
  |none=>simp[Builtin.firstCells]
  |some a=>
   have:=run_firstCells_some (P:=P) w' sz 0 a 0 cap [] (by simp) (λj v h=>by simp at h)
   simpa using this
 ·subst hss
  obtain⟨news,g1,g2,g3⟩:=Zhv hE h0
  refine⟨news,g1,by simp[Builtin.lenOf],λk hk w' ZL=>?_,g3⟩
  subst ha
  refine run_firstCells_some (P:=P) w' sy k ⟨b,off,none⟩ _ cap (news.take (k*sy)) ?_ λj u hj=>?_
  ·have:=aV sy hk
   simp;omega
  ·rw[zw (by rw[ZL];exact hh)]
   rw[aU]at hj
   split at hj
   ·exact g2 j u hj
   ·cases hj
theorem qaa{c:Ctx}(h0:0<sz)(h:sN R y=some (sy,ys))(hs:sy=sz\/ys.l=[])(hm:Mem c w)(hA:mV c R)(hr:Rep c w y v):Src P c w v ys.l sz:=by
 cases y<;>simp only[sN]at h<;>try(cases h;done)
 case dx=>cases h;rw[show v=_ from hr];exact JV (sy:=sz) h0 (es:=[]) (.inl rfl)
 case emp=>cases h;obtain⟨a,hv,_⟩:=hr;rw[hv];exact JV (sy:=sz) h0 (es:=[]) (.inl rfl)
 case sl s es fr=>
  cases h
  obtain⟨a,cap,hv,hc,iq⟩:=hr
  rw[hv]
  refine JV (sy:=sy) h0 ?_
  rcases iq with iq|⟨b,off,arr,ty,fz,ha,hI,hf,hh,hE⟩
  ·exact .inl iq
  ·rcases hs with hs|hs
   ·exact .inr ⟨hs,b,off,arr,ty,fz,ha,hh,hE⟩
   ·exact .inl hs
 case all r=>
  split at h
  ·rename_i ty s es hR
   cases h
   obtain⟨row,g1,g2,hv⟩:=hr
   have:=hA r row _ g1 hR
   subst this
   rcases hv with⟨hV,a,hv,_⟩|⟨hV,cap,arr,hv,g3,g4,g5,g6⟩
   ·have he:=(hm.ov g1 hV).2.1
    simp only at he
    rw[hv,he]
    exact JV (sy:=sz) h0 (es:=[]) (.inl rfl)
   ·obtain⟨iQ,jG,jl,hx⟩:=hm.real g1 hV
    simp only at g5 jG hx hv
    rw[g5]at jG;cases jG
    simp only[aN,if_false]at hx
    rw[hv]
    refine JV (sy:=sy) h0 ?_
    rcases hs with hs|hs
    ·exact .inr ⟨hs,_,0,arr,_,_,rfl,g5,hx⟩
    ·exact .inl hs
  ·cases h
 case own r o n=>
  split at h
  ·rename_i ty s es hR
   cases h
   obtain⟨row,g1,g2,g5,hv⟩:=hr
   have:=hA r row _ g1 hR
   subst this
   simp only at g5
   have hlen:((es.l.drop o).take n).length=n:=by simp only[bD,bF];omega
   rw[ak.je,ak.kC]at hs⊢
   rcases hv with⟨g7,a,hv,_⟩|⟨hV,cap,arr,g3,g4,g6,hv,g7⟩
   ·subst g7
    rw[hv]
    have:=JV (P:=P) (c:=c) (w:=w) (sy:=sz) h0 (es:=(es.l.drop o).take 0) (a:=a) (cap:=0) (.inl (by simp))
    simpa using this
   ·obtain⟨iQ,jG,jl,hx⟩:=hm.real g1 hV
    simp only at g6 jG hx hv
    rw[g6]at jG;cases jG
    simp only[aN,if_false]at hx
    have hE:=MI (n:=n) (KS (l:=o) hx)
    have:=JV (P:=P) (c:=c) (w:=w) (sy:=sy) h0 (es:=(es.l.drop o).take n) (a:=some ⟨c.ρ r,o*sy,none⟩) (cap:=cap) (by
     rcases hs with hs|hs
     ·exact .inr ⟨hs,_,o*sy,arr,_,_,rfl,g6,by simpa using hE⟩
     ·exact .inl hs)
    rw[hlen]at this
    rw[hv];exact this
  ·cases h
theorem zaa{c:Ctx}{ke kx:TK}(h0:0<sz)(h:Db R ke kx y=some (sy,ys))(hs:sy=sz\/ys.l=[])(hm:Mem c w)(hA:mV c R)(hr:Rep c w y v):Src P c w v ys.l sz:=by
 unfold Db at h
 split at h
 ·exact qaa h0 h hs hm hA hr
 ·split at h
  ·rename_i s
   cases h
   have hv:=Rep.str.1 hr
   subst hv
   have fy:(ByteArray.mk s.toArray).size=s.length:=by simp[ByteArray.size]
   have ext:∀k,((ByteArray.mk s.toArray).extract 0 k).data.toList=s.take k:=λk=>by
    simp[ByteArray.data_extract]
   have hf:∀k w',(Builtin.firstCells sz k (.string ⟨s.toArray⟩)).run P w'=.ok ((s.map λb=>Value.int .u8 b.toNat).take k).toArray w':=λk w'=>by
    simp only[Builtin.firstCells,Sem.run_pure]
    congr 1
    apply fR
    simp only[Array.toList_map,ext,List.map_take]
   rcases hs with hs|hs
   ·subst hs
    exact⟨s.map λb=>Value.int .u8 b.toNat,by simp[iW,ak.len],by simp[Builtin.lenOf,iW,ak.len,fy],λk hk w' _=>by rw[hf];simp,Zll s⟩
   ·have:s=[]:=by simpa[iW,ak.l]using hs
    subst this
    exact⟨[],by simp[iW,ak.len],by simp[Builtin.lenOf,iW,ak.len,fy],λk hk w' _=>by rw[hf];simp,by simp[iW,ak.l,pY,oz]⟩
  ·cases h
 ·cases h
def Ctx.jv(c:Ctx)(k:Nat)(row:Row):Ctx:={c with R:=λr=>if r=k then some row else c.R r,V:=λr=>r=k\/c.V r}
theorem Tc{c:Ctx}(hk:c.R k=none)(row:Row):jn c w (c.jv k row) w:=by
 refine⟨rfl,aO _,λb hb=>⟨hb,rfl⟩,λr x hr=>?_⟩
 have gv:r≠k:=λe=>by rw[e,hk]at hr;cases hr
 exact⟨x,by simp[Ctx.jv,gv,hr],rfl,rfl,rfl,rfl,rfl,by simp[Ctx.jv,gv],λ_ arr ha=>⟨arr,ha,rfl⟩⟩
theorem W6{c:Ctx}(hm:Mem c w)(hk:c.R k=none)(hb:row.box=false)(he:row.es.l=[])(h0:0<row.sz):Mem (c.jv k row) w:=by
 have hg:=Tc (w:=w) hk row
 have inv:∀r x,(c.jv k row).R r=some x->¬(c.jv k row).V r->c.R r=some x/\¬c.V r:=λr x hr hv=>by
  have h1:¬r=k:=λe=>hv (.inl e)
  exact⟨by simpa[Ctx.jv,h1]using hr,λe=>hv (.inr e)⟩
 refine⟨λr x hr=>?_,λr s x y hr hs v1 v2 h=>?_,λb iH=>⟨(hm.fu b iH).1,λr x hr v=>?_⟩,hm.top,hm.kY⟩
 ·by_cases e:r=k
  ·subst e
   simp only[Ctx.jv,if_true,Option.some.injEq]at hr
   subst hr
   exact .inl ⟨.inl rfl,hb,he,h0⟩
  ·have nF:c.R r=some x:=by simpa[Ctx.jv,e]using hr
   exact um hg rfl (by simp[Ctx.jv,e]) (λ_=>rfl) (hm.row r x nF)
 ·obtain⟨h1,h2⟩:=inv r x hr v1
  obtain⟨h3,h4⟩:=inv s y hs v2
  exact hm.inj r s x y h1 h3 h2 h4 h
 ·obtain⟨h1,h2⟩:=inv r x hr v
  exact(hm.fu b iH).2 r x h1 h2
theorem NA(c:Ctx)(w:World):jn c w c w.drew:=⟨rfl,aO _,λb hb=>⟨hb,rfl⟩,λr row hr=>⟨row,hr,rfl,rfl,rfl,rfl,rfl,Iff.rfl,λ_ arr ha=>⟨arr,ha,rfl⟩⟩⟩
theorem KQ{c:Ctx}(h:Mem c w):Mem c w.drew:=
 ⟨λr row hr=>um (NA c w) rfl Iff.rfl (λ_=>rfl) (h.row r row hr),h.inj,h.fu,h.top,h.kY⟩
theorem ZM{es ys:List (List D)}{A B C:List Value}(h1:iK I w es A.toArray 0 sz)(hA:A.length=es.length*sz)(h2:iK I w ys B.toArray 0 sz)(hB:B.length=ys.length*sz):iK I w (es++ys) (A++B++C).toArray 0 sz:=by
 rw[wF]at h1 h2⊢
 intro i hi
 by_cases bz:i<es.length
 ·have he:(es++ys).getD i []=es.getD i []:=by simp[aK,aZ bz]
  rw[he]
  obtain⟨g1,g2⟩:=h1 i bz
  refine⟨g1,?_⟩
  rw[uk]at g2⊢
  intro j hj
  obtain⟨v,hv,hp⟩:=g2 j hj
  refine⟨v,?_,hp⟩
  have hl:=(Array.getElem?_eq_some_iff.1 hv).1
  simp only[aY,bA]at hv hl⊢
  rw[fG,aZ hl];exact hv
 ·have iw:i-es.length<ys.length:=by simp at hi;omega
  have he:(es++ys).getD i []=ys.getD (i-es.length) []:=by simp[aK,bB (show es.length<=i by omega)]
  rw[he]
  obtain⟨g1,g2⟩:=h2 _ iw
  refine⟨g1,?_⟩
  rw[uk]at g2⊢
  intro j hj
  obtain⟨v,hv,hp⟩:=g2 j hj
  refine⟨v,?_,hp⟩
  have hl:=(Array.getElem?_eq_some_iff.1 hv).1
  simp only[aY,bA]at hv hl⊢
  have e:0+i*sz+j=A.length+(0+(i-es.length)*sz+j):=by
   rw[hA,show i*sz=(es.length+(i-es.length))*sz by congr 1;omega,bC];omega
  rw[e,fG,bB (by omega),aZ (by omega)]
  rw[show A.length+(0+(i-es.length)*sz+j)-A.length=0+(i-es.length)*sz+j by omega]
  exact hv
theorem xR{c:Ctx}(hm:Mem c w){row ao:Row}{cur arr:Array Value}(hr:c.R r=some row)(hV:¬c.V r)(hk:c.R k=none)(hh:w.heap[c.ρ r]?=some (.cells cur row.ty (0,0)))(US:ao.ty=row.ty)(h0:0<ao.sz)(hb:ao.box=false)
 (hE:∀w',(∀b,c.I b->w'.heap[b]?=w.heap[b]?)->iK c.I w' ao.es.l arr 0 ao.sz):
 jn (c.kill [r]) w ((c.kill [r]).add k ao (c.ρ r)) (w.setRow (c.ρ r) arr)/\Mem ((c.kill [r]).add k ao (c.ρ r)) (w.setRow (c.ρ r) arr):=by
 have Cr:=ZJ (ks:=[r]) hm
 have F5:(c.kill [r]).R k=none:=by simp[Ctx.kill,hk]
 have oW:∀s x,(c.kill [r]).R s=some x->s≠r/\s≠k:=λs x hs=>by
  obtain⟨h1,ka,h2,_⟩:=Q3 hs
  refine⟨λe=>?_,λe=>by rw[e,F5]at hs;cases hs⟩
  rw[e]at h1
  have:=oA (r:=r) (l:=[r])
  simp[h1]at this
 have fk:(w.setRow (c.ρ r) arr).heap[c.ρ r]?=some (.cells arr row.ty (0,0)):=setRow_heap w _ _ _ _ _ hh
 have Dc:∀s x,(c.kill [r]).R s=some x->¬c.V s->(w.setRow (c.ρ r) arr).heap[c.ρ s]?=w.heap[c.ρ s]? :=λs x hs v=>setRow_other w _ _ _ λe=>by
  obtain⟨_,ka,h2,_⟩:=Q3 hs
  exact(oW s x hs).1 (hm.inj s r ka row h2 hr v hV e)
 have hI:∀b,c.I b->(w.setRow (c.ρ r) arr).heap[b]?=w.heap[b]? :=λb hb=>setRow_other w _ _ _ (λe=>(hm.fu b hb).2 r row hr hV e.symm)
 have hg:jn (c.kill [r]) w ((c.kill [r]).add k ao (c.ρ r)) (w.setRow (c.ρ r) arr):=by
  refine⟨rfl,aO _,λb hb=>⟨hb,hI b hb⟩,λs x hs=>?_⟩
  obtain⟨n1,n2⟩:=oW s x hs
  exact⟨x,by simp[Ctx.add,n2,hs],rfl,rfl,rfl,rfl,by simp[Ctx.add,n2],by simp[Ctx.add,n2],λv a ha=>⟨a,(Dc s x hs v).trans ha,rfl⟩⟩
 have inv:∀s x,((c.kill [r]).add k ao (c.ρ r)).R s=some x->¬((c.kill [r]).add k ao (c.ρ r)).V s->(s=k/\((c.kill [r]).add k ao (c.ρ r)).ρ s=c.ρ r)\/(s≠k/\s≠r/\((c.kill [r]).add k ao (c.ρ r)).ρ s=c.ρ s/\¬c.V s/\∃y,c.R s=some y):=λs x hs v=>by
  by_cases e:s=k
  ·exact .inl ⟨e,by simp[Ctx.add,e]⟩
  ·have jl:(c.kill [r]).R s=some x:=by simpa[Ctx.add,e]using hs
   obtain⟨_,y,hy,_⟩:=Q3 jl
   have v':¬c.V s:=λh=>v (by simp only[Ctx.add];exact⟨e,h⟩)
   exact .inr ⟨e,(oW s x jl).1,by simp[Ctx.add,e,Ctx.kill],v',y,hy⟩
 refine⟨hg,⟨λs x hs=>?_,λs q x y hs hq v1 v2 he=>?_,λb iH=>?_,by show c.top<=(w.setRow _ _).heap.size;simpa[World.setRow]using hm.top,hm.kY.mono hg.I⟩⟩
 ·by_cases e:s=k
  ·subst e
   simp only[Ctx.add,if_true,Option.some.injEq]at hs
   subst hs
   refine .inr ⟨by simp[Ctx.add],arr,by simp only[Ctx.add,if_true];rw[US];exact fk,h0,?_⟩
   rw[hb]
   simp only[aN,if_false]
   exact hE _ hI
  ·have jl:(c.kill [r]).R s=some x:=by simpa[Ctx.add,e]using hs
   exact um hg (by simp[Ctx.add,e]) (by simp[Ctx.add,e]) (λv=>Dc s x jl v) (Cr.row s x jl)
 ·rcases inv s x hs v1 with⟨e1,p1⟩|⟨e1,p1,p2,p3,y1,p4⟩<;>rcases inv q y hq v2 with⟨e2,q1⟩|⟨e2,q1,q2,q3,y2,q4⟩
  ·rw[e1,e2]
  ·rw[p1,q2]at he
   exact(q1 (hm.inj q r y2 row q4 hr q3 hV he.symm)).elim
  ·rw[p2,q1]at he
   exact(p1 (hm.inj s r y1 row p4 hr p3 hV he)).elim
  ·rw[p2,q2]at he
   exact hm.inj s q y1 y2 p4 q4 p3 q3 he
 ·refine⟨by simpa[World.setRow]using(hm.fu b iH).1,λs x hs v=>?_⟩
  rcases inv s x hs v with⟨e1,p1⟩|⟨e1,p1,p2,p3,y1,p4⟩
  ·rw[p1];exact(hm.fu b iH).2 r row hr hV
  ·rw[p2];exact(hm.fu b iH).2 s y1 p4 p3
def Ce(P:Program)(o:Oper)(ev:Operand->D)(R:Rows)(ks:List Nat)(val:D)(R':Rows):Prop:=
 ∀ (c:Ctx) (w:World) (a:Act),Mem c w->c.base<=w.heap.size->(∀r,c.R r=R.getD r none)->(∀x∈o.op.operands,Rep c w (ev x) (a.eval x))->
  ∀K Q,(∀v w' c',jJ ks c w c' w'->(∀r,c'.R r=R'.getD r none)->Rep c' w' val v->K (a.put o.dst v) w')->o.nw P a w K Q
theorem Fj.toK{o:Oper}{val:D}{R':Rows}(h:Fj P o ev R val R'):Ce P o ev R [] val R':=
 λc w a hm hb hR fh K Q hK=>h c w a hm hb hR fh K Q λv w' c' hn j7 hv=>hK v w' c' hn.toK j7 hv
section
variable {P:Program} {c:Ctx} {w:World} {R:Rows} {ks:List Nat} {e sz lZ:Nat} {es ys:ak}
theorem UT{ρ':Nat->Nat}{V':Nat->Prop}(hR:∀r,c.R r=R.getD r none):∀r,(if r=R.length then some row else(c.kill ks).R r)=(su ks R 0++[some row]).getD r none:=by
 intro r
 by_cases e:r=R.length
 ·subst e
  simp[aK,bB,JU]
 ·rw[if_neg e]
  by_cases bz:r<R.length
  ·rw[aK,aZ (by rw[JU];exact bz),<-aK,QG]
   simp[Ctx.kill,hR]
  ·rw[aK,aM (by simp[JU];omega)]
   simp[Ctx.kill,hR,aM (show R.length<=r by omega)]
theorem append_empty(ht:P.underlying t=some (.slice e))(pM:P.underlying tx=some ux)(hx: ∀k,ux≠ .int k)(hi:P.info? e=some i)(hz:i.zero=some z)(fy:i.size=sz)(uY:i.bytes=lZ)(F6:z.cells.size=sz)
    (hm:Mem c w) (hb:c.base<=w.heap.size) (hR: ∀r,c.R r=R.getD r none) (h0:0<sz) (pL:0<lZ) (oK:lZ*(0+ys.l.length)<=140737488355328) {a:Option Addr} (AQ:AP c.top a) {vy:Value} (hs:Src P c w vy ys.l sz):
    ∃v' w' c',(Builtin.append_ #[t,tx] ty #[.slice a 0 0,vy]).run P w= .ok v' w'/\jJ ks c w c' w'/\(∀r,c'.R r=(su ks R 0++[some (⟨false,e,sz,ys⟩:Row)]).getD r none)/\Rep c' w' (.all R.length) v':=by
  obtain⟨news,g1,g2,g3,g4⟩:=hs
  have hk:c.R R.length=none:=by rw[hR];simp [aK]
  have F5:(c.kill ks).R R.length=none:=by simp [Ctx.kill,hk]
  have Cr:=ZJ (ks:=ks) hm
  subst fy
  by_cases hm0:ys.l.length=0
  . have Th:ys.l=[]:=fO hm0
    have hn:news=[]:=fO (by rw[g1,hm0];simp)
    subst hn
    rw[Th]at g2 g3
    have il:=Qoi (P:=P) w (ty:=ty) (n:=0) (cap:=0) (a:=a) (w':=w) ht pM hx hi g2 (by simpa using g3 0 (aO _) w rfl) (by simp) (λb _=>by simp [storeCells]) (λ_=>rfl)
    refine⟨_,w,(c.kill ks).jv R.length ⟨false,e,i.size,ys⟩,il,⟨W6 Cr F5 rfl Th h0,Tc F5 _,Fr.refl _ w,λb hb=> .inl hb,λr ao h1 h2=> ?_⟩,UT (ρ':=c.ρ) (V':=c.V) hR,?_⟩
    . have gv:r≠R.length:=λe=>h2 (.inl e)
      have ng:(c.kill ks).R r=some ao:=by simpa [Ctx.jv,gv] using h1
      obtain⟨_,ka,h3,_⟩:=Q3 ng
      exact .inl ⟨⟨ka,h3⟩,λe=>h2 (.inr e),rfl⟩
    . exact⟨⟨false,e,i.size,ys⟩,by simp [Ctx.jv],rfl, .inl ⟨.inl rfl,a,rfl,AQ⟩⟩
  . have hlen:(0+ys.l.length:Nat)*i.bytes<=140737488355328:=by rw[uY,fT];exact oK
    have UF:0+ys.l.length<=140737488355328:=bH (fU _ (by rw[uY];exact pL)) hlen
    have ZN:0+ys.l.length<=maxLen:=by unfold maxLen;omega
    have il:=Qo0 (P:=P) w (ty:=ty) (n:=0) (cap:=0) (a:=a) (lj:=[]) (news:=news) ht pM hx hi hz g2
      (by have:=g3 _ (aO _) w.drew rfl;rwa [fL (by omega)]at this)
      (by cases a with
          |none=>simp [Builtin.firstCells]
          |some a=>simpa using run_firstCells_some (P:=P) w.drew i.size 0 a 0 0 [] (by simp) (λj v h=>by simp at h)) (by omega) (by omega) (growslice_fits (by omega) hlen)
    have pV:=grownCap_ge w (0+ys.l.length) 0 e
    have AO:grownCap w (0+ys.l.length) 0 e<=maxLen:=grownCap_le_maxLen w _ _ e ZN
    generalize grownCap w (0+ys.l.length) 0 e=gc at il pV AO
    have mH:(#[]++news.toArray++Builtin.zeroCells z.cells (gc-(0+ys.l.length))).size=gc*i.size:=by
      have e1:(#[]++news.toArray++Builtin.zeroCells z.cells (gc-(0+ys.l.length))).size=ys.l.length*i.size+(gc-(0+ys.l.length))*i.size:=by
        simp [size_zeroCells,F6,g1]
      rw[e1,<-bC]
      congr 1;omega
    have hE: ∀(I:ag) (w':World),(∀b,c.I b->I b/\w'.heap[b]? =w.heap[b]?)->iK I w' ys.l (#[]++news.toArray++Builtin.zeroCells z.cells (gc-(0+ys.l.length))) 0 i.size:=λI w' h=>by
      have:=ZM (I:=I) (w:=w') (es:=[]) (ys:=ys.l) (A:=[]) (B:=news) (C:=(Builtin.zeroCells z.cells (gc-(0+ys.l.length))).toList) (sz:=i.size) (by simp [pY,oz]) (by simp) (ou h _ _ _ _ g4) g1
      have h2:(#[]++news.toArray++Builtin.zeroCells z.cells (gc-(0+ys.l.length)))=([]++news++(Builtin.zeroCells z.cells (gc-(0+ys.l.length))).toList).toArray:=by apply fR;simp
      rw[h2];simpa using this
    have HD:=Mem.alloc (w:=w.drew) (KQ Cr) F5 ⟨false,e,i.size,ys⟩ (#[]++news.toArray++Builtin.zeroCells z.cells (gc-(0+ys.l.length))) h0 (by
      simp only[aN,if_false]
      exact hE _ _ λb hb=>⟨hb,rfl⟩)
    have oL:=ZO (c:=c.kill ks) (w:=w.drew) (k:=R.length) (e:=e) (sz:=i.size) (cap:=gc) (es:=ys) (arr:= #[]++news.toArray++Builtin.zeroCells z.cells (gc-(0+ys.l.length))) (by omega) AO mH.symm
    refine⟨_,_,(c.kill ks).add R.length ⟨false,e,i.size,ys⟩ w.heap.size,il,⟨HD,(NA _ w).trans (jn.alloc (w:=w.drew) (KQ Cr) F5 _ _),?_,λb hb=> .inl hb,λr ao h1 h2=> ?_⟩,UT (ρ':=c.ρ) (V':=c.V) hR,by have h3:=oL;simp only[aX]at h3⊢;exact h3⟩
    . exact Fr.trans (w':=w.drew) ⟨rfl,rfl,rfl,aO _,λ_ _ _=>rfl⟩ (Fr.alloc _ w.drew _)
    . by_cases e1:r=R.length
      . subst e1
        right;right
        simp [Ctx.add]
      . have ng:(c.kill ks).R r=some ao:=by simpa [Ctx.add,e1] using h1
        obtain⟨_,ka,h3,_⟩:=Q3 ng
        exact .inl ⟨⟨ka,h3⟩,by simpa [Ctx.add,e1,Ctx.kill] using h2,by simp [Ctx.add,e1,Ctx.kill]⟩
theorem Zk7(ht:P.underlying t=some (.slice e))(pM:P.underlying tx=some ux)(hx:∀k,ux≠.int k)(hi:P.info? e=some i)(hz:i.zero=some z)(fy:i.size=sz)(uY:i.bytes=lZ)(F6:z.cells.size=sz)
 (hm:Mem c w) (hb:c.base<=w.heap.size) (hR:∀r,c.R r=R.getD r none) (h0:0<sz) (pL:0<lZ) (oK:lZ*(es.l.length+ys.l.length)<=140737488355328) {r:Nat} {row:Row} (q1:c.R r=some row) (US:row.ty=e) (hV:¬c.V r) {cap:Nat} {cur:Array Value} (h1:es.l.length<=cap) (h2:cap<=maxLen) (h3:w.heap[c.ρ r]?=some (.cells cur e (0,0))) (h4:cap*sz=cur.size) (JW:iK c.I w es.l cur 0 sz) {vy:Value} (hs:Src P c w vy ys.l sz):
 ∃v' w' c',(Builtin.append_ #[t,tx] ty #[.slice (some ⟨c.ρ r,0,none⟩) es.l.length cap,vy]).run P w=.ok v' w'/\jJ [r] c w c' w'/\(∀q,c'.R q=(su [r] R 0++[some (⟨false,e,sz,es.app ys⟩:Row)]).getD q none)/\Rep c' w' (.all R.length) v':=by
 obtain⟨news,g1,g2,g3,g4⟩:=hs
 have hk:c.R R.length=none:=by rw[hR];simp[aK]
 have F5:(c.kill [r]).R R.length=none:=by simp[Ctx.kill,hk]
 have Cr:=ZJ (ks:=[r]) hm
 subst fy
 have hlen:(es.l.length+ys.l.length)*i.bytes<=140737488355328:=by rw[uY,fT];exact oK
 have UF:es.l.length+ys.l.length<=140737488355328:=bH (fU _ (by rw[uY];exact pL)) hlen
 have ZN:es.l.length+ys.l.length<=maxLen:=by unfold maxLen;omega
 obtain⟨lj,o1,o2,o3⟩:=Zhv JW h0
 by_cases k9:es.l.length+ys.l.length<=cap
 ·have rB:es.l.length*i.size+0+news.length<=cur.size:=by rw[g1,<-h4,bG,<-bC];exact aV _ k9
  have jZ:=run_storeCells_at (P:=P) (c.ρ r) (es.l.length*i.size) e news 0 cur w h3 rB (iK.one g4 g1)
  simp only[bG]at jZ rB
  have il:=Qoi (P:=P) w (ty:=ty) (n:=es.l.length) (cap:=cap) (a:=some ⟨c.ρ r,0,none⟩) ht pM hx hi g2 (by have:=g3 _ (aO _) w rfl;rwa [fL (by omega)]at this) k9 (λb hb=>by cases hb;rw[Addr.add_lit,aX];exact jZ) (λh=>by cases h)
  have hE:∀w',(∀b,c.I b->w'.heap[b]?=w.heap[b]?)->iK c.I w' (es.app ys).l (cur.toList.take (es.l.length*i.size)++news++cur.toList.drop (es.l.length*i.size+news.length)).toArray 0 i.size:=λw' h=>by
   rw[ak.j9]
   refine ZM (A:=cur.toList.take (es.l.length*i.size)) (ou (λb hb=>⟨hb,h b hb⟩) _ _ _ _ ?_) (by rw[bD,show cur.toList.length=cur.size from rfl];omega) (ou (λb hb=>⟨hb,h b hb⟩) _ _ _ _ g4) g1
   have:cur.toList.take (es.l.length*i.size)=lj:=by
    apply List.ext_getElem?
    intro j
    by_cases hj:j<lj.length
    ·have:=o2 j _ (cG hj)
     rw[aU,if_pos (by omega),cG hj]
     simpa using this
    ·rw[aM (by rw[bD];omega),aM (by omega)]
   rw[this];exact o3
  obtain⟨k1,k2⟩:=xR hm (k:=R.length) (ao:=⟨false,e,i.size,es.app ys⟩) q1 hV hk (by rw[US];exact h3) US.symm h0 rfl hE
  refine⟨_,_,_,il,⟨k2,k1,(S4 w _ _).mono λb _ hb=>⟨r,_,q1,hV,hb.symm⟩,λb hb=>.inl hb,λq ao p1 p2=>?_⟩,UT (ρ':=c.ρ) (V':=c.V) hR,?_⟩
  ·by_cases e1:q=R.length
   ·subst e1
    exact .inr (.inl ⟨r,_,by simp[cf],q1,hV,by simp[Ctx.add]⟩)
   ·have ng:(c.kill [r]).R q=some ao:=by simpa[Ctx.add,e1]using p1
    obtain⟨_,ka,CS,_⟩:=Q3 ng
    exact .inl ⟨⟨ka,CS⟩,by simpa[Ctx.add,e1,Ctx.kill]using p2,by simp[Ctx.add,e1,Ctx.kill]⟩
  ·refine⟨⟨false,e,i.size,es.app ys⟩,by simp[Ctx.add],rfl,.inr ⟨by simp[Ctx.add],cap,(cur.toList.take (es.l.length*i.size)++news++cur.toList.drop (es.l.length*i.size+news.length)).toArray,?_,by rw[ak.j9,lA];exact k9,h2,?_,?_⟩⟩
   ·simp only[Ctx.add,if_true,ak.j9,lA]
   ·simp only[Ctx.add,if_true];exact setRow_heap w _ _ _ _ _ h3
   ·simp only[bA,lA,bD,bF,Array.length_toList]
    rw[h4];omega
 ·have il:=Qo0 (P:=P) w (ty:=ty) (n:=es.l.length) (cap:=cap) (a:=some ⟨c.ρ r,0,none⟩) (lj:=lj) (news:=news) ht pM hx hi hz g2
   (by have:=g3 _ (aO _) w.drew rfl;rwa [fL (by omega)]at this)
   (run_firstCells_some (P:=P) w.drew i.size es.l.length _ _ cap lj o1 λj v hj=>by
    rw[zw (w:=w.drew) h3];exact o2 j v hj) (by omega) (by omega) (growslice_fits (by omega) hlen)
  have pV:=grownCap_ge w (es.l.length+ys.l.length) cap e
  have AO:grownCap w (es.l.length+ys.l.length) cap e<=maxLen:=grownCap_le_maxLen w _ _ e ZN
  generalize grownCap w (es.l.length+ys.l.length) cap e=gc at il pV AO
  have mH:(lj.toArray++news.toArray++Builtin.zeroCells z.cells (gc-(es.l.length+ys.l.length))).size=gc*i.size:=by
   have e1:(lj.toArray++news.toArray++Builtin.zeroCells z.cells (gc-(es.l.length+ys.l.length))).size=es.l.length*i.size+ys.l.length*i.size+(gc-(es.l.length+ys.l.length))*i.size:=by
    simp[size_zeroCells,F6,g1,o1]
   rw[e1,<-bC,<-bC]
   congr 1;omega
  have hE:∀(I:ag) (w':World),(∀b,c.I b->I b/\w'.heap[b]?=w.heap[b]?)->iK I w' (es.app ys).l (lj.toArray++news.toArray++Builtin.zeroCells z.cells (gc-(es.l.length+ys.l.length))) 0 i.size:=λI w' h=>by
   rw[ak.j9]
   have:=ZM (I:=I) (w:=w') (es:=es.l) (ys:=ys.l) (A:=lj) (B:=news) (C:=(Builtin.zeroCells z.cells (gc-(es.l.length+ys.l.length))).toList) (sz:=i.size) (ou h _ _ _ _ o3) o1 (ou h _ _ _ _ g4) g1
   have h2:(lj.toArray++news.toArray++Builtin.zeroCells z.cells (gc-(es.l.length+ys.l.length)))=(lj++news++(Builtin.zeroCells z.cells (gc-(es.l.length+ys.l.length))).toList).toArray:=by apply fR;simp
   rw[h2];exact this
  have HD:=Mem.alloc (w:=w.drew) (KQ Cr) F5 ⟨false,e,i.size,es.app ys⟩ (lj.toArray++news.toArray++Builtin.zeroCells z.cells (gc-(es.l.length+ys.l.length))) h0 (by
   simp only[aN,if_false]
   exact hE _ _ λb hb=>⟨hb,rfl⟩)
  have oL:=ZO (c:=c.kill [r]) (w:=w.drew) (k:=R.length) (e:=e) (sz:=i.size) (cap:=gc) (es:=es.app ys) (arr:=lj.toArray++news.toArray++Builtin.zeroCells z.cells (gc-(es.l.length+ys.l.length))) (by rw[ak.j9,lA];omega) AO mH.symm
  refine⟨_,_,(c.kill [r]).add R.length ⟨false,e,i.size,es.app ys⟩ w.heap.size,il,⟨HD,(NA _ w).trans (jn.alloc (w:=w.drew) (KQ Cr) F5 _ _),?_,λb hb=>.inl hb,λq ao p1 p2=>?_⟩,UT (ρ':=c.ρ) (V':=c.V) hR,by rw[ak.j9,lA]at oL;exact oL⟩
  ·exact Fr.trans (w':=w.drew) ⟨rfl,rfl,rfl,aO _,λ_ _ _=>rfl⟩ (Fr.alloc _ w.drew _)
  ·by_cases e1:q=R.length
   ·subst e1
    right;right
    simp[Ctx.add]
   ·have ng:(c.kill [r]).R q=some ao:=by simpa[Ctx.add,e1]using p1
    obtain⟨_,ka,CS,_⟩:=Q3 ng
    exact .inl ⟨⟨ka,CS⟩,by simpa[Ctx.add,e1,Ctx.kill]using p2,by simp[Ctx.add,e1,Ctx.kill]⟩
theorem Zr7(ht:P.underlying t=some (.slice e))(pM:P.underlying tx=some ux)(hx:∀k,ux≠.int k)(hi:P.info? e=some i)(hz:i.zero=some z)(fy:i.size=sz)(uY:i.bytes=lZ)(F6:z.cells.size=sz)
 (hm:Mem c w) (hb:c.base<=w.heap.size) (hR:∀r,c.R r=R.getD r none) (h0:0<sz) (pL:0<lZ) (oK:lZ*(es.l.length+ys.l.length)<=140737488355328) {r:Nat} (hr:R.getD r none=some ⟨false,e,sz,es⟩) {vx vy:Value} (ZP:Rep c w (.all r) vx) (hs:Src P c w vy ys.l sz):
 ∃v' w' c',(Builtin.append_ #[t,tx] ty #[vx,vy]).run P w=.ok v' w'/\jJ [r] c w c' w'/\(∀q,c'.R q=(su [r] R 0++[some (⟨false,e,sz,es.app ys⟩:Row)]).getD q none)/\Rep c' w' (.all R.length) v':=by
 obtain⟨row,q1,q2,hv⟩:=ZP
 have cq:row=⟨false,e,sz,es⟩:=by rw[hR,hr]at q1;exact(Option.some.inj q1).symm
 subst cq
 rcases hv with⟨hV,a,hv,AQ⟩|⟨hV,cap,cur,hv,h1,h2,h3,h4⟩
 ·have he:=(hm.ov q1 hV).2.1
  simp only at he
  subst hv
  have hl:(es.app ys).l=ys.l:=by rw[ak.j9,he];rfl
  exact append_empty (ks:=[r]) (ys:=es.app ys) ht pM hx hi hz fy uY F6 hm hb hR h0 pL (by rw[hl];rw[he]at oK;simpa using oK) AQ (by rw[hl];exact hs)
 ·have hl:=hm.real q1 hV
  obtain⟨NY,jG,_,JW⟩:=hl
  simp only at h1 h3 h4 hv jG
  subst hv
  rw[h3]at jG;cases jG
  simp only[aN,if_false]at JW
  exact Zk7 ht pM hx hi hz fy uY F6 hm hb hR h0 pL oK q1 rfl hV h1 h2 h3 h4 JW hs
theorem Zrj(ht:P.underlying t=some (.slice e))(pM:P.underlying tx=some ux)(hx:∀k,ux≠.int k)(hi:P.info? e=some i)(hz:i.zero=some z)(fy:i.size=sz)(uY:i.bytes=lZ)(F6:z.cells.size=sz)
 (hm:Mem c w) (hb:c.base<=w.heap.size) (hR:∀r,c.R r=R.getD r none) (h0:0<sz) (pL:0<lZ) (oK:lZ*((es.take n).l.length+ys.l.length)<=140737488355328) {r:Nat} (hr:R.getD r none=some ⟨false,e,sz,es⟩) {vx vy:Value} (ZP:Rep c w (.own r 0 n) vx) (hs:Src P c w vy ys.l sz):
 ∃v' w' c',(Builtin.append_ #[t,tx] ty #[vx,vy]).run P w=.ok v' w'/\jJ [r] c w c' w'/\(∀q,c'.R q=(su [r] R 0++[some (⟨false,e,sz,(es.take n).app ys⟩:Row)]).getD q none)/\Rep c' w' (.all R.length) v':=by
 obtain⟨row,q1,q2,hle,hv⟩:=ZP
 have cq:row=⟨false,e,sz,es⟩:=by rw[hR,hr]at q1;exact(Option.some.inj q1).symm
 subst cq
 have hln:(es.take n).l.length=n:=by rw[ak.je,bD];simp only at hle;omega
 rcases hv with⟨h0',a,hv,AQ⟩|⟨hV,cap,cur,h1,h2,h3,hv,h4⟩
 ·subst hv;subst h0'
  have MJ:(es.take 0).l=[]:=by rw[ak.je];rfl
  have hl:((es.take 0).app ys).l=ys.l:=by rw[ak.j9,MJ];rfl
  have g:jn c w {c with top:=w.heap.size} w:=⟨rfl,hm.top,λb hb=>⟨hb,rfl⟩,λr row hr=>⟨row,hr,rfl,rfl,rfl,rfl,rfl,Iff.rfl,λnv arr ha=>⟨arr,ha,rfl⟩⟩⟩
  have IK:Mem {c with top:=w.heap.size} w:=⟨λr row hr=>um g rfl Iff.rfl (λ_=>rfl) (hm.row r row hr),hm.inj,hm.fu,aO _,hm.kY⟩
  have GK:AP w.heap.size a:=by
   rcases AQ with h|⟨hV,h⟩
   ·exact h.mono hm.top
   ·exactλx hx=>by rw[h x hx];exact hm.lt q1 hV
  obtain⟨v',w',c',p1,p2,p3,p4⟩:=append_empty (c:={c with top:=w.heap.size}) (ks:=[r]) (ys:=(es.take 0).app ys) ht pM hx hi hz fy uY F6 IK hb hR h0 pL (by rw[hl];rw[MJ]at oK;simpa using oK) GK (by rw[hl];exact hs)
  refine⟨v',w',c',p1,⟨p2.mem,?_,p2.fr,p2.fu,p2.oy⟩,p3,p4⟩
  have g':jn (c.kill [r]) w (Ctx.kill {c with top:=w.heap.size} [r]) w:=⟨rfl,hm.top,λb hb=>⟨hb,rfl⟩,λr row hr=>⟨row,hr,rfl,rfl,rfl,rfl,rfl,Iff.rfl,λnv arr ha=>⟨arr,ha,rfl⟩⟩⟩
  exact g'.trans p2.cg
 ·obtain⟨NY,jG,_,JW⟩:=hm.real q1 hV
  simp only at h3 h4 hv jG
  rw[h3]at jG;cases jG
  simp only[aN,if_false]at JW
  have hE1:iK c.I w (es.take n).l cur 0 sz:=by rw[ak.je];exact MI JW
  rw[hv,show((0:Nat)*sz)=0 from Nat.zero_mul _]
  have:=Zk7 (ty:=ty) (es:=es.take n) (cap:=cap) ht pM hx hi hz fy uY F6 hm hb hR h0 pL oK q1 rfl hV (by rw[hln];exact h1) h2 h3 (by rw[<-h4,aX]) hE1 hs
  rw[hln]at this
  exact this
end
theorem S3{E:ak}(h:IX E=true):E.l=[]:=by
 unfold IX at h
 split at h
 ·rfl
 ·cases h
theorem Zpx{T:iM}(hT:jD P T){x y:D}(h:MK T M t tx x y R K):
    ∃ ks R',K ks (.all R.length) R'/\(∀k,cf k ks=true->M<=k)/\ ∀c w vx vy,Mem c w->c.base<=w.heap.size->(∀r,c.R r=R.getD r none)->Rep c w x vx->Rep c w y vy->
      ∃v' w' c',(Builtin.append_ #[t,tx] ty #[vx,vy]).run P w= .ok v' w'/\jJ ks c w c' w'/\(∀r,c'.R r=R'.getD r none)/\Rep c' w' (.all R.length) v':=by
  unfold MK at h
  split at h
  . rename_i e iP _ _ _ _ _ ht
    have hk:=nf hT ht
    simp only at hk
    split at h
    . rename_i ke sz lZ cs z q kx _ _ _ _ _ he htx
      obtain⟨i,u,hi,hu,JX,hs,hb,hc,hzero⟩:=JY hT he
      have UU:=nf hT htx
      split at h
      . rename_i sy ys j8
        simp only[db,aE,Bool.or_eq_true]at h
        obtain⟨⟨⟨⟨h0,h1⟩,h2,h3⟩,h4,h5⟩,h⟩:=h
        have h0:0<sz:=lE h0
        have pL:0<lZ:=lE h4
        have h2:=bE h2
        have h5:sy=sz\/ys.l=[]:=h5.imp bE S3
        have Ab:u.cells.size=sz:=by have:=QH JX;simp at this;omega
        obtain⟨ux,pM,nJ⟩: ∃ux,P.underlying tx=some ux/\ ∀k,ux≠ .int k:=by
          unfold Db at j8
          split at j8
          . simp only at UU;exact⟨_,UU.1,λk e=>by cases e⟩
          . simp only at UU;exact⟨_,UU,λk e=>by cases e⟩
          . cases j8
        have Ac: ∀(c:Ctx) (w:World) (vy:Value),Mem c w->(∀r,c.R r=R.getD r none)->Rep c w y vy->Src P c w vy ys.l sz:=λc w vy hm hR hy=>zaa h0 j8 h5 hm (λr row ao g1 g2=>by rw[hR,g2]at g1;exact(Option.some.inj g1).symm) hy
        cases x<;>simp only at h
        case dx=>
          simp only[Dd,db,decide_eq_true_eq,ny,<-ak.iy]at h
          refine⟨_,_,h.2,λk hk=>by simp [cf]at hk,λc w vx vy hm tQ hR hx hy=> ?_⟩
          rw[show vx=_ from hx]
          have hl:((ak.gen []).app ys).l=ys.l:=by rw[ak.j9];rfl
          exact append_empty (ks:=[]) (ys:=(ak.gen []).app ys) hk.1 pM nJ hi hu hs hb Ab hm tQ hR h0 pL (by rw[hl];have:=h.1;simpa [ak.l] using this) NN (by rw[hl];exact Ac c w vy hm hR hy)
        case emp=>
          simp only[Dd,db,decide_eq_true_eq,ny,<-ak.iy]at h
          refine⟨_,_,h.2,λk hk=>by simp [cf]at hk,λc w vx vy hm tQ hR hx hy=> ?_⟩
          obtain⟨a,hx,AQ⟩:=hx
          rw[hx]
          have hl:((ak.gen []).app ys).l=ys.l:=by rw[ak.j9];rfl
          exact append_empty (ks:=[]) (ys:=(ak.gen []).app ys) hk.1 pM nJ hi hu hs hb Ab hm tQ hR h0 pL (by rw[hl];have:=h.1;simpa [ak.l] using this) AQ (by rw[hl];exact Ac c w vy hm hR hy)
        case all r=>
          split at h
          . rename_i j6 s es hr
            simp only[aE,Dd,db,decide_eq_true_eq,ny,<-ak.iy]at h
            obtain⟨⟨⟨g1,g2⟩,g3⟩,g5,g6⟩:=h
            have g1:=bE g1
            have g2:=bE g2
            subst g1;subst g2
            refine⟨_,_,g6,λk hk=> ?_,λc w vx vy hm tQ hR hx hy=> ?_⟩
            . have:=oA.1 hk
              simp at this
              rw[this];exact lE g3
            . exact Zr7 hk.1 pM nJ hi hu hs hb Ab hm tQ hR h0 pL g5 hr hx (Ac c w vy hm hR hy)
          . exact h.elim
        case own r o n=>
          split at h
          . rename_i j6 s es hr
            simp only[aE,Dd,db,decide_eq_true_eq,ny,<-ak.iy]at h
            obtain⟨⟨⟨g1,g2⟩,g3,g4⟩,g5,g6⟩:=h
            have g1:=bE g1
            have g2:=bE g2
            have g4:=bE g4
            subst g1;subst g2;subst g4
            refine⟨_,_,g6,λk hk=> ?_,λc w vx vy hm tQ hR hx hy=> ?_⟩
            . have:=oA.1 hk
              simp at this
              rw[this];exact lE g3
            . exact Zrj hk.1 pM nJ hi hu hs hb Ab hm tQ hR h0 pL g5 hr hx (Ac c w vy hm hR hy)
          . exact h.elim
      . exact h.elim
    . exact h.elim
  . exact h.elim
theorem Z3x{c:Ctx}(gv:∀f cs,d≠.gq f cs)(h:cz c w d v):cz {c with base:=0} w d v:=by
 cases d with
 |sl sz es fr=>
  obtain⟨a,cap,hv,hc,iq⟩:=h
  refine⟨a,cap,hv,hc,?_⟩
  rcases iq with iq|⟨b,off,arr,ty,fz,ha,hI,hf,hh,hE⟩
  ·exact .inl iq
  ·exact .inr ⟨b,off,arr,ty,fz,ha,hI,λ_=>Nat.zero_le _,hh,hE⟩
 |gq f cs=>exact absurd rfl (gv f cs)
 |_=>exact h
theorem ZQ{c:Ctx}(h:cz c w d v):cz {c with base:=0} w d v:=by
 by_cases e:∃g cs,d=.gq g cs
 ·obtain⟨g,cs,rfl⟩:=e
  obtain⟨us,hv,hu⟩:=h
  exact⟨us,hv,ZI (c:=c) (w:=w) (c':={c with base:=0}) (w':=w) (S:=λ_=>True) (λd v q1 _ q2=>Z3x q1 q2) (λ_ hb=>⟨hb,rfl⟩) (λ_ _=>trivial) hu⟩
 ·exact Z3x (λf cs e'=>e ⟨f,cs,e'⟩) h
theorem Z61{c:Ctx}{w:World}:∀{ds:List D} {vs:List Value},jq c w ds vs->jq {c with base:=0} w ds vs
 |[],[],_=>trivial
 |_::_,_::_,h=>⟨ZQ h.1,Z61 h.2⟩
 |[],_::_,h=>h.elim
 |_::_,[],h=>h.elim
theorem Zba{c:Ctx}(h:VRep c w d v):VRep {c with base:=0} w d v:=by
 cases d with
 |agg cs=>obtain⟨vs,hv,hr⟩:=h;exact⟨vs,hv,Z61 hr⟩
 |_=>exact VRep.Fi (ZQ (VRep.toC (λcs e=>by cases e) h))
theorem ZR{c:Ctx}{w:World}:∀{ds:List D} {vs:List Value},kp c w ds vs->kp {c with base:=0} w ds vs
 |[],[],_=>trivial
 |_::_,_::_,h=>⟨Zba h.1,ZR h.2⟩
 |[],_::_,h=>h.elim
 |_::_,[],h=>h.elim
theorem Z0t{c:Ctx}{w:World}:∀{ds:List D} {arr:Array Value} {off:Nat},kU c w ds arr off->kU {c with base:=0} w ds arr off
 |[],_,_,_=>trivial
 |_::_,_,_,⟨⟨v,hv,h1⟩,h2⟩=>⟨⟨v,hv,ZQ h1⟩,Z0t h2⟩
theorem Zh0{c:Ctx}(h:Mem c w):Mem {c with base:=0} w:=by
 refine⟨λr row hr=>?_,h.inj,h.fu,h.top,h.kY⟩
 rcases h.row r row hr with h0|⟨h0,arr,ha,hs,hx⟩
 ·exact .inl h0
 ·refine .inr ⟨h0,arr,ha,hs,?_⟩
  split
  ·rename_i hb
   rw[if_pos hb]at hx
   obtain⟨e,k1,k2,k3,k4⟩:=hx
   exact⟨e,k1,k2,k3,Z0t k4⟩
  ·rename_i hb
   rw[if_neg hb]at hx
   exact hx
theorem Z10{f:Nat->Nat}:∀{ids:List Nat} {rows:List Row} {R:Rows},ids.Nodup->ids.length<=rows.length->(∀r∈ids,r<R.length)->
 (F7 f ids rows R).length=R.length/\(∀(i r:Nat),ids[i]?=some r->∃row,rows[i]?=some row/\(F7 f ids rows R).getD r none=some (row.jk f false))/\∀r,r∉ids->(F7 f ids rows R).getD r none=R.getD r none
 |[],rows,R,_,_,_=>by
  have:F7 f [] rows R=R:=by cases rows<;>rfl
  rw[this]
  exact⟨rfl,λi r h=>by simp at h,λ_ _=>rfl⟩
 |r::ids,[],R,_,hl,_=>by simp at hl
 |r ::ids,row::rows,R,ly,hl,bz=>by
  obtain⟨IU,JZ⟩:=List.nodup_cons.1 ly
  obtain⟨g1,g2,g3⟩:=Z10 (f:=f) (ids:=ids) (rows:=rows) (R:=R.set r (some (row.jk f false))) JZ (by simpa using hl) (λq hq=>by simpa using bz q (by simp[hq]))
  have hr:=bz r (by simp)
  have ZS:(R.set r (some (row.jk f false))).getD r none=some (row.jk f false):=by simp[aK,hr]
  have gv:∀q,q≠r->(R.set r (some (row.jk f false))).getD q none=R.getD q none:=λq hq=>by simp[aK,List.getElem?_set_ne (Ne.symm hq)]
  simp only[F7]
  refine⟨by simpa using g1,λi q hq=>?_,λq hq=>?_⟩
  ·cases i with
   |zero=>
    simp at hq;subst hq
    exact⟨row,rfl,by rw[g3 _ IU];exact ZS⟩
   |succ i=>simpa using g2 i q (by simpa using hq)
  ·have h1:q≠r:=λe=>hq (by simp[e])
   rw[g3 q (λe=>hq (by simp[e])),gv q h1]
def Ctx.ei(c:Ctx)(c':Ctx)(kl n0:Nat)(R2:Rows):Ctx:=
 { ρ:=λr=>if n0<=r/\r<R2.length then c'.ρ (kl+(r-n0)) else c.ρ r,
   R:=λr=>R2.getD r none,
   V:=λr=>if n0<=r/\r<R2.length then c'.V (kl+(r-n0)) else c.V r,
   I:=c'.I,base:=c.base,top:=c'.top,X:=c.X}
theorem ML{i k n:Nat}:cf i (bK k n)=true↔k<=i/\i<k+n:=by
 rw[oA,List.mem_range'_1]
theorem Zaw{c c':Ctx}{ids:List Nat}{eh aj:List Row}(hm:Mem c w)(hR:∀r,c.R r=R.getD r none)
 (ly:ids.Nodup) (c6:BH R (λr=>pos r ids 0) ids=some eh) (hle:(ids.take k).length<=aj.length)
 (hx:jJ (bK k (eh.length-k)) {c.pass w ids eh false with base:=0} w c' w') (j7:∀i,c'.R i=aj[i]?)
 {R2:Rows} (uZ:R2=F7 (bk (ids.take k) R.length) (ids.take k) aj (su (ids.drop k) R 0)++QI (bk (ids.take k) R.length) (aj.drop (ids.take k).length)):
 EK (λ_=>True) (bk (ids.take k) R.length) false c' (c.ei c' (ids.take k).length R.length R2)/\
 jJ (ids.drop k) c w (c.ei c' (ids.take k).length R.length R2) w':=by
 obtain⟨gl,Bh⟩:=F8 c6
 generalize hf:bk (ids.take k) R.length=f at*
 generalize ZT:(ids.take k).length=kl at*
 have od:∀r row,R.getD r none=some row->c.R r=some row:=λr row e=>by rw[hR];exact e
 have bz:∀r∈ids,r<R.length:=λr hr=>by
  obtain⟨row,h1,_⟩:=Bh _ r (BI hr)
  by_cases hl:r<R.length
  ·exact hl
  ·rw[aK,aM (by omega)]at h1;cases h1
 have htd:ids.take k++ids.drop k=ids:=List.take_append_drop k ids
 have ZU:(ids.take k).Nodup:=by rw[<-htd]at ly;exact(List.nodup_append.1 ly).1
 have QJ:∀r,r∈ids.take k->r∈ids.drop k->False:=λr h1 h2=>by
  rw[<-htd]at ly
  exact(List.nodup_append.1 ly).2.2 r h1 r h2 rfl
 have JaC:kl=min k ids.length:=by rw[<-ZT];simp
 have De:∀i,i<kl->(ids.take k)[i]?=ids[i]? :=λi hi=>by rw[aU,if_pos (by omega)]
 have tf:∀i r,ids[i]?=some r->kl<=i->r∈ids.drop k:=λi r hi pV=>by
  have nb:=(List.getElem?_eq_some_iff.1 hi).1
  have:(ids.drop k)[i-k]?=some r:=by rw[fS,show k+(i-k)=i by omega];exact hi
  exact fV this
 obtain⟨k1,k2,k3⟩:=Z10 (f:=f) (ids:=ids.take k) (rows:=aj) (R:=su (ids.drop k) R 0) ZU (by rw[ZT];exact hle) (λr hr=>by rw[JU];exact bz r (cX hr))
 rw[JU]at k1
 have wG:R2.length=R.length+(aj.length-kl):=by rw[uZ];simp[k1,QI]
 have QK:∀r,r<R.length->R2.getD r none=(F7 f (ids.take k) aj (su (ids.drop k) R 0)).getD r none:=λr hr=>by
  rw[uZ,aK,aK,aZ (by omega)]
 have ZV:∀i,kl<=i->i<aj.length->R2.getD (R.length+(i-kl)) none=aj[i]?.map λrow=>row.jk f false:=λi h1 h2=>by
  have:∀(l:List Row) (j:Nat),(QI f l)[j]?=l[j]?.map λrow=>some (row.jk f false):=λl j=>by simp[QI]
  rw[uZ,aK,bB (by omega),this,k1,show R.length+(i-kl)-R.length=i-kl by omega,fS,show kl+(i-kl)=i by omega]
  rw[cG h2];rfl
 have jE:∀i r ao,i<kl->ids[i]?=some r->c'.R i=some ao->∃row,c.R r=some row/\ao.box=row.box/\ao.ty=row.ty/\ao.sz=row.sz/\ao.es.l.length=row.es.l.length/\c'.ρ i=c.ρ r/\(c'.V i↔c.V r)/\r<R.length/\R2.getD r none=some (ao.jk f false)/\f i=r/\
  (¬c.V r->∀arr,w.heap[c.ρ r]?=some (.cells arr row.ty (0,0))->∃iQ,w'.heap[c.ρ r]?=some (.cells iQ row.ty (0,0))/\iQ.size=arr.size):=by
  intro i r ao oj hi jo
  obtain⟨row,h1,h2⟩:=Bh i r hi
  have jS:=fV hi
  have h3:=od r row h1
  have Df:(({c.pass w ids eh false with base:=0}:Ctx).kill (bK k (eh.length-k))).R i=some ((row.jk (λr=>pos r ids 0) false).kill (bK k (eh.length-k))):=by
   simp only[Ctx.kill,Ctx.pass]
   rw[if_neg (λe=>by have:=ML.1 e;omega),h2];rfl
  obtain⟨oF,g1,g2,g3,g4,g5,g6,gV,g7⟩:=hx.cg.R i _ Df
  rw[jo]at g1;cases g1
  obtain⟨s1,s2,s3,s4⟩:=J0 (λr=>pos r ids 0) false row
  obtain⟨t1,t2,t3,t4⟩:=wJ (bK k (eh.length-k)) (row.jk (λr=>pos r ids 0) false)
  have iw:=(De i oj).trans hi
  obtain⟨lq,q1,q2⟩:=k2 i r iw
  rw[j7,q1]at jo;cases jo
  refine⟨row,h3,g2.trans (t1.trans s1),g3.trans (t2.trans s2),g4.trans (t3.trans s3),g5.trans (t4.trans s4),by simpa[Ctx.kill,Ctx.pass,hi]using g6,by simpa[Ctx.kill,Ctx.pass,hi]using gV,bz r jS,by rw[QK r (bz r jS)];exact q2,by rw[<-hf];simp[bk,iw],λnv arr ha=>?_⟩
  have:=g7 (by simpa[Ctx.kill,Ctx.pass,hi]using nv) arr (by simpa[Ctx.kill,Ctx.pass,hi,s2,t2]using ha)
  simpa[Ctx.kill,Ctx.pass,hi,s2,t2]using this
 have GZ:∀i ao,c'.R i=some ao->¬c'.V i->(∃j s row,ids[j]?=some s/\c.R s=some row/\¬c.V s/\c'.ρ i=c.ρ s/\(i<kl->j=i)/\(kl<=i->s∈ids.drop k))\/w.heap.size<=c'.ρ i:=by
  intro i ao h1 nv
  by_cases oj:i<kl
  ·have iw:ids[i]?=some ids[i]:=cG (by omega)
   obtain⟨row,g1,g2,g3,g4,g5,g6,g7,_⟩:=jE i _ ao oj iw h1
   exact .inl ⟨i,_,row,iw,g1,λe=>nv (g7.2 e),g6,λ_=>rfl,λh=>by omega⟩
  ·rcases hx.oy i ao h1 nv with⟨⟨x,nP⟩,v,e⟩|⟨s,x,hs,nP,v,e⟩|e
   ·have Jl:eh[i]?=some x:=nP
    have HE:=(List.getElem?_eq_some_iff.1 Jl).1
    have iw:ids[i]?=some ids[i]:=cG (by omega)
    obtain⟨row,g1,g2⟩:=Bh i _ iw
    exact .inl ⟨i,_,row,iw,od _ _ g1,by simpa[Ctx.pass,iw]using v,by simpa[Ctx.pass,iw]using e,λh=>by omega,λ_=>tf i _ iw (by omega)⟩
   ·have Jl:eh[s]?=some x:=nP
    have HE:=(List.getElem?_eq_some_iff.1 Jl).1
    have iw:ids[s]?=some ids[s]:=cG (by omega)
    obtain⟨row,g1,g2⟩:=Bh s _ iw
    have hsk:=(ML.1 hs).1
    exact .inl ⟨s,_,row,iw,od _ _ g1,by simpa[Ctx.pass,iw]using v,by simpa[Ctx.pass,iw]using e,λh=>by omega,λ_=>tf s _ iw (by omega)⟩
   ·exact .inr e
 have new:∀i ao,kl<=i->c'.R i=some ao->i<aj.length/\R2.getD (R.length+(i-kl)) none=some (ao.jk f false)/\f i=R.length+(i-kl):=by
  intro i ao hi jo
  have h1:aj[i]?=some ao:=by rw[<-j7];exact jo
  have h2:=(List.getElem?_eq_some_iff.1 h1).1
  refine⟨h2,by rw[ZV i hi h2,h1];rfl,?_⟩
  rw[<-hf]
  simp only[bk]
  rw[aM (by omega),ZT]
 have Dg:EK (λ_=>True) f false c' (c.ei c' kl R.length R2):=by
  refine⟨λi ao _ jo=>?_,(λh=>by cases h),aO _⟩
  obtain⟨s1,s2,s3,s4⟩:=J0 f false ao
  by_cases hi:i<kl
  ·have iw:ids[i]?=some ids[i]:=cG (by omega)
   obtain⟨row,g1,g2,g3,g4,g5,g6,g7,g8,g9,g10,_⟩:=jE i _ ao hi iw jo
   rw[g10]
   exact⟨_,g9,s1,s2,s3,s4,by simp only[Ctx.ei];rw[if_neg (by omega),g6],by simp only[Ctx.ei];rw[if_neg (by omega)];exact g7.symm⟩
  ·obtain⟨h1,h2,h3⟩:=new i ao (by omega) jo
   rw[h3]
   have hc:R.length<=R.length+(i-kl)/\R.length+(i-kl)<R2.length:=by omega
   have he:kl+(R.length+(i-kl)-R.length)=i:=by omega
   exact⟨_,h2,s1,s2,s3,s4,by simp only[Ctx.ei];rw[if_pos hc,he],by simp only[Ctx.ei];rw[if_pos hc,he]⟩
 have Cq:Fr (λb=>∃r x,c.R r=some x/\¬c.V r/\r∈ids/\c.ρ r=b) w w':=hx.fr.mono λb _ ⟨i,x,h1,h2,h3⟩=>by
  have ng:eh[i]?=some x:=h1
  have hi:i<ids.length:=by have:=(List.getElem?_eq_some_iff.1 ng).1;omega
  have iw:ids[i]?=some ids[i]:=cG hi
  obtain⟨row,g1,g2⟩:=Bh i _ iw
  exact⟨_,row,od _ row g1,by simpa[Ctx.pass,iw]using h2,fV iw,by simpa[Ctx.pass,iw]using h3⟩
 have rest:∀r,r∉ids->r<R.length->R2.getD r none=(R.getD r none).map (Row.kill (ids.drop k)):=λr h1 h2=>by
  rw[QK r h2,k3 r (λe=>h1 (cX e)),QG,aX,if_neg (λe=>h1 (cY (oA.1 e)))]
 have gone:∀r,r∈ids.drop k->R2.getD r none=none:=λr h=>by
  rw[QK r (bz r (cY h)),k3 r (λe=>QJ r e h),QG,aX,if_pos (oA.2 h)]
 have inv:∀r x,(c.ei c' kl R.length R2).R r=some x->(∃i ao,c'.R i=some ao/\x=ao.jk f false/\(c.ei c' kl R.length R2).ρ r=c'.ρ i/\((c.ei c' kl R.length R2).V r↔c'.V i)/\(i<kl/\ids[i]?=some r/\(c.ei c' kl R.length R2).ρ r=c.ρ r/\((c.ei c' kl R.length R2).V r↔c.V r)\/R.length<=r/\kl<=i/\r=R.length+(i-kl)))\/
  (∃row,c.R r=some row/\x=row.kill (ids.drop k)/\r∉ids/\(c.ei c' kl R.length R2).ρ r=c.ρ r/\((c.ei c' kl R.length R2).V r↔c.V r)):=by
  intro r x jI
  have jI:R2.getD r none=some x:=jI
  by_cases jS:r∈ids
  ·by_cases hg:r∈ids.drop k
   ·rw[gone r hg]at jI;cases jI
   ·left
    have hp:=BI jS
    have BJ:pos r ids 0<kl:=by
     by_cases h:pos r ids 0<kl
     ·exact h
     ·exact(hg (tf _ r hp (by omega))).elim
    obtain⟨lq,q1,q2⟩:=k2 _ r ((De _ BJ).trans hp)
    have rM:c'.R (pos r ids 0)=some lq:=by rw[j7];exact q1
    obtain⟨row,g1,g2,g3,g4,g5,g6,g7,g8,g9,g10,_⟩:=jE _ r lq BJ hp rM
    rw[g9]at jI
    cases jI
    have e1:(c.ei c' kl R.length R2).ρ r=c.ρ r:=by simp only[Ctx.ei];rw[if_neg (by omega)]
    have e2:(c.ei c' kl R.length R2).V r↔c.V r:=by simp only[Ctx.ei];rw[if_neg (by omega)]
    exact⟨_,lq,rM,rfl,by rw[e1,g6],by rw[e2,g7],.inl ⟨BJ,hp,e1,e2⟩⟩
  ·by_cases hc:R.length<=r
   ·left
    have UW:r<R2.length:=by
     by_cases h:r<R2.length
     ·exact h
     ·rw[aK,aM (by omega)]at jI;cases jI
    have hi:kl+(r-R.length)<aj.length:=by omega
    have rM:c'.R (kl+(r-R.length))=some aj[kl+(r-R.length)]:=by rw[j7];exact cG hi
    obtain⟨h1,h2,h3⟩:=new _ _ (by omega) rM
    rw[show R.length+(kl+(r-R.length)-kl)=r by omega]at h2
    rw[h2]at jI
    cases jI
    exact⟨_,_,rM,rfl,by simp only[Ctx.ei];rw[if_pos ⟨hc,UW⟩],by simp only[Ctx.ei];rw[if_pos ⟨hc,UW⟩],.inr ⟨hc,by omega,by omega⟩⟩
   ·right
    rw[rest r jS (by omega)]at jI
    simp only[fP]at jI
    obtain⟨row,h1,h2⟩:=jI
    exact⟨row,od r row h1,h2.symm,jS,by simp only[Ctx.ei];rw[if_neg (by omega)],by simp only[Ctx.ei];rw[if_neg (by omega)]⟩
 have apart:∀r row i ao,c.R r=some row->r∉ids->¬c.V r->c'.R i=some ao->¬c'.V i->c'.ρ i≠c.ρ r:=λr row i ao h1 h2 h3 h4 h5 e=>by
  rcases GZ i ao h4 h5 with⟨j,s,jC,q1,q2,q3,q4,_⟩|q
  ·have:=hm.inj s r jC row q2 h1 q3 h3 (by rw[<-q4,e])
   subst this
   exact h2 (fV q1)
  ·have:=hm.lt h1 h3;omega
 have rj:jn (c.kill (ids.drop k)) w (c.ei c' kl R.length R2) w':=by
  refine⟨rfl,hx.cg.top,λb iH=>?_,λr x hr=>?_⟩
  ·have h1:(({c.pass w ids eh false with base:=0}:Ctx).kill (bK k (eh.length-k))).I b:=.inl iH
   exact⟨(hx.cg.I b h1).1,(hx.cg.I b h1).2⟩
  ·obtain⟨UX,row,cq,rfl⟩:=Q3 hr
   have UX:r∉ids.drop k:=λe=>by rw[oA.2 e]at UX;cases UX
   obtain⟨u1,u2,u3,u4⟩:=wJ (ids.drop k) row
   by_cases jS:r∈ids
   ·have hp:=BI jS
    have BJ:pos r ids 0<kl:=by
     by_cases h:pos r ids 0<kl
     ·exact h
     ·exact(UX (tf _ r hp (by omega))).elim
    obtain⟨lq,q1,q2⟩:=k2 _ r ((De _ BJ).trans hp)
    have rM:c'.R (pos r ids 0)=some lq:=by rw[j7];exact q1
    obtain⟨ka,g1,g2,g3,g4,g5,g6,g7,g8,g9,g10,g11⟩:=jE _ r lq BJ hp rM
    rw[cq]at g1;cases g1
    obtain⟨s1,s2,s3,s4⟩:=J0 f false lq
    refine⟨_,g9,s1.trans (g2.trans u1.symm),s2.trans (g3.trans u2.symm),s3.trans (g4.trans u3.symm),s4.trans (g5.trans u4.symm),by simp only[Ctx.ei];rw[if_neg (by omega)];rfl,by simp only[Ctx.ei];rw[if_neg (by omega)];rfl,λnv arr ha=>?_⟩
    rw[u2]at ha⊢
    exact g11 nv arr ha
   ·have rO:r<R.length:=by
     by_cases h:r<R.length
     ·exact h
     ·rw[hR,aK,aM (by omega)]at cq;cases cq
    refine⟨row.kill (ids.drop k),?_,rfl,rfl,rfl,rfl,by simp only[Ctx.ei];rw[if_neg (by omega)];rfl,by simp only[Ctx.ei];rw[if_neg (by omega)];rfl,λnv arr ha=>⟨arr,?_,rfl⟩⟩
    ·show R2.getD r none=_
     rw[rest r jS rO,<-hR,cq];rfl
    ·have nv:¬c.V r:=nv
     show w'.heap[c.ρ r]?=_
     rw[Cq.heap _ (hm.lt cq nv) fun⟨s,x,h1,h2,h3,h4⟩=>jS (by rw[<-hm.inj s r x row h1 cq h2 nv h4];exact h3)]
     exact ha
 refine⟨Dg,⟨λr x jI=>?_,λr s x y hr hs v1 v2 he=>?_,λb iH=>⟨(hx.mem.fu b iH).1,λr x hr v=>?_⟩,hx.mem.top,hx.mem.kY⟩,rj,Cq.mono λb _ ⟨r,x,h1,h2,_,h4⟩=>⟨r,x,h1,h2,h4⟩,λb iH=>?_,λr x hr v=>?_⟩
 ·rcases inv r x jI with⟨i,ao,h1,rfl,h3,h4,_⟩|⟨row,h1,rfl,h2,h3,h4⟩
  ·exact ZW Dg (flat:=False) (.inl λb hb=>hb) h3 h4 (λ_ _ _ _ _=>trivial) (λe=>e.elim) (hx.mem.row i ao h1)
  ·have hk:=Zqd (ks:=ids.drop k) (hm.row r row h1)
   exact um rj h3 h4 (λnv=>Cq.heap _ (hm.lt h1 nv) fun⟨s,x',g1,g2,g3,g4⟩=>h2 (by rw[<-hm.inj s r x' row g1 h1 g2 nv g4];exact g3)) hk
 ·rcases inv r x hr with⟨i,x',h1,_,h3,h4,h5⟩|⟨row,h1,_,h2,h3,h4⟩<;>rcases inv s y hs with⟨j,y',g1,_,g3,g4,g5⟩|⟨jC,g1,_,g2,g3,g4⟩
  ·have:i=j:=hx.mem.inj i j x' y' h1 g1 (λe=>v1 (h4.2 e)) (λe=>v2 (g4.2 e)) (by rw[<-h3,<-g3];exact he)
   subst this
   rcases h5 with⟨q0,q1,_⟩|⟨_,q1,q2⟩<;>rcases g5 with⟨p0,p1,_⟩|⟨_,p1,p2⟩
   ·rw[q1]at p1;exact Option.some.inj p1
   ·omega
   ·omega
   ·omega
  ·exact(apart s jC i x' g1 g2 (λe=>v2 (g4.2 e)) h1 (λe=>v1 (h4.2 e)) (by rw[<-h3,<-g3];exact he)).elim
  ·exact(apart r row j y' h1 h2 (λe=>v1 (h4.2 e)) g1 (λe=>v2 (g4.2 e)) (by rw[<-h3,<-g3];exact he.symm)).elim
  ·exact hm.inj r s row jC h1 g1 (λe=>v1 (h4.2 e)) (λe=>v2 (g4.2 e)) (by rw[<-h3,<-g3];exact he)
 ·rcases inv r x hr with⟨i,x',h1,_,h3,h4,h5⟩|⟨row,h1,_,h2,h3,h4⟩
  ·rw[h3];exact(hx.mem.fu b iH).2 i x' h1 (λe=>v (h4.2 e))
  ·have nv:¬c.V r:=λe=>v (h4.2 e)
   rw[h3]
   rcases hx.fu b iH with q|⟨s,z,q1,q2,q3,q4⟩|q
   ·rcases q with q|⟨q,_⟩
    ·exact(hm.fu b q).2 r row h1 nv
    ·cases q
   ·intro e
    have hz:eh[s]?=some z:=q2
    have HE:=(List.getElem?_eq_some_iff.1 hz).1
    have iw:ids[s]?=some ids[s]:=cG (by omega)
    obtain⟨jC,g1,g2⟩:=Bh s _ iw
    have:=hm.inj _ r jC row (od _ _ g1) h1 (by simpa[Ctx.pass,iw]using q3) nv (by rw[e];simpa[Ctx.pass,iw]using q4)
    exact h2 (by rw[<-this];exact fV iw)
   ·have:=hm.lt h1 nv;omega
 ·rcases hx.fu b iH with q|⟨s,z,q1,q2,q3,q4⟩|q
  ·rcases q with q|⟨q,_⟩
   ·exact .inl q
   ·cases q
  ·have hz:eh[s]?=some z:=q2
   have HE:=(List.getElem?_eq_some_iff.1 hz).1
   have iw:ids[s]?=some ids[s]:=cG (by omega)
   obtain⟨jC,g1,g2⟩:=Bh s _ iw
   have hsk:=(ML.1 q1).1
   exact .inr (.inl ⟨_,jC,oA.2 (tf s _ iw (by omega)),od _ _ g1,by simpa[Ctx.pass,iw]using q3,by simpa[Ctx.pass,iw]using q4⟩)
  ·exact .inr (.inr q)
 ·rcases inv r x hr with⟨i,x',h1,_,h3,h4,h5⟩|⟨row,h1,_,h2,h3,h4⟩
  ·rcases h5 with⟨q0,q1,q2,q3⟩|⟨q0,q1,q2⟩
   ·obtain⟨row,g1,_⟩:=jE i r x' q0 q1 h1
    exact .inl ⟨⟨row,g1⟩,λe=>v (q3.2 e),q2⟩
   ·rcases GZ i x' h1 (λe=>v (h4.2 e))with⟨j,s,jC,p1,p2,p3,p4,_,p5⟩|p
    ·exact .inr (.inl ⟨s,jC,oA.2 (p5 q1),p2,p3,by rw[h3];exact p4⟩)
    ·exact .inr (.inr (by rw[h3];exact p))
  ·exact .inl ⟨⟨row,h1⟩,λe=>v (h4.2 e),h3⟩
def HF(P:Program)(f:FuncId)(args:List Operand)(ev:Operand->D)(R:Rows)(ks:List Nat)(val:D)(R':Rows):Prop:=
 ∀ (c:Ctx) (w:World) (ρ:Operand->Value),Mem c w->c.base<=w.heap.size->(∀r,c.R r=R.getD r none)->(∀y∈args,Rep c w (ev y) (ρ y))->
  ∀K':Value->World->Prop,(∀v w' c',jJ ks c w c' w'->(∀r,c'.R r=R'.getD r none)->Rep c' w' val v->K' v w')->GQ P c.I f (args.map ρ) w λe w'=>∃v,e=.returned v/\K' v w'
theorem WX{P:Program}{G:List bf}{M:Nat}(hG:j5 P G){f:FuncId}{k:Nat}{args:List Operand}{ev:Operand->D}{R:Rows}{K:List Nat->D->Rows->Prop}
 (mb:pq G f=some k) (h:IC G M f k (args.map ev) R K):∃ks val R' x,K ks val R'/\oZ G f=some x/\(x.refs≠[])/\(∀j,cf j ks=true->M<=j)/\HF P f args ev R ks val R':=by
 unfold IC at h
 split at h
 ·rename_i x hx
  have wK:x.gone=some k:=by simpa[pq,hx]using mb
  obtain⟨dz,hf⟩:=GC hG hx
  split at h
  ·rename_i az eh has iX
   simp only[db,aE]at h
   obtain⟨⟨⟨⟨hv,nA⟩,h1,h2⟩,h3,h4⟩,h⟩:=h
   generalize J1:mL R x.refs (args.map ev)=ids at*
   have u5:=MM.1 h1
   have gl:=MM.1 h2
   have ly:=MN.1 h3
   have HG:lW x.refs (args.map ev)=[]:=by
    revert hv
    cases lW x.refs (args.map ev)<;>simp
   have hrefs:x.refs≠[]:=λe=>by rw[e]at nA;simp at nA
   have main:∀res aj,HH R (ids.take k) (ids.drop k) res aj K->sV P x.f k az eh res aj->
    ∃ks val R' y,K ks val R'/\oZ G f=some y/\(y.refs≠[])/\(∀j,cf j ks=true->M<=j)/\HF P f args ev R ks val R':=by
    intro res aj hK hA
    simp only[HH,db,D.cu,ny]at hK
    obtain⟨hle,hK⟩:=hK
    have hle:=lE hle
    refine⟨_,_,_,x,hK,hx,hrefs,λj hj=>lE (List.all_eq_true.1 h4 j (oA.1 hj)),λc w ρ hm hb hR fh K' rC=>?_⟩
    have od:∀r row,r∈ids->R.getD r none=some row->c.R r=some row:=λr row _ e=>by rw[hR];exact e
    have pn:mV c R:=λr row ao g1 g2=>by rw[hR,g2]at g1;exact(Option.some.inj g1).symm
    have hn:=UY (len:=false) (w:=w) od iX
    have gb:=MO (len:=false) (ρ:=ρ) hm pn hn has (λe=>(e HG).elim) (λr hr=>by rw[HG]at hr;cases hr) u5 fh
    have mF:=hA _ w _ (Zh0 (ZX (len:=false) hm od ly gl iX)) rfl (λr=>rfl) (ZR gb)
    rw[hf]at mF
    refine mF.mono (λb hb=>.inl hb) (λe w' tg=>?_)
    obtain⟨v,c',he,nJ,j7,lg⟩:=tg
    have:=Zaw (k:=k) hm hR ly iX hle nJ j7 rfl
    exact⟨v,he,rC v w' _ this.2 (λr=>rfl) (ZY this.1 (flat:=False) (.inl λb hb=>hb) (λ_=>trivial) (λe=>e.elim) lg)⟩
   split at h
   ·rename_i α v res aj hm
    exact main _ _ (h v rfl) (dz.QL k wK _ _ _ _ _ _ hm)
   ·rename_i p α v res aj hm
    exact main _ _ (h.2 v rfl) (dz.HI k wK _ _ _ _ _ _ _ hm h.1)
   ·exact h.elim
  ·exact h.elim
 ·exact h.elim
theorem Zot(hG:j5 P G)(hy:f<YB){guard:Option (Nat×Bool)}
 (mb:pq G f=some k) (h:IC G M f k (args.toList.map ev) R K):∃ks val R' x,K ks val R'/\oZ G f=some x/\(x.refs≠[])/\(∀j,cf j ks=true->M<=j)/\Ce P ⟨dst,.call ⟨.value (.func f),args,dh⟩,type,pos',after,guard⟩ ev R ks val R':=by
 obtain⟨ks,val,R',x,h1,h2,h3,h4,h5⟩:=WX hG mb h
 obtain⟨dz,hf⟩:=GC hG h2
 refine⟨ks,val,R',x,h1,h2,h3,h4,λc w a hm hb hR fh K' Q rC=>?_⟩
 subst hf
 exact ZZ dz rfl hy ((h5 c w a.eval hm hb hR (λy hy=>fh y (by simp[Op.operands,Call.operands];exact .inr (by simpa using hy))) (λv w'=>K' (a.put dst v) w') λv w' c'=>rC v w' c').1 hy)
def Ctx.only(c:Ctx)(ks:List Nat):Ctx:={c with R:=λr=>if cf r ks=true then(match c.R r with|some row=>if row.box=true then none else some row|none=>none)else none}
theorem MP{c:Ctx}(h:(c.only ks).R r=some x):r∈ks/\c.R r=some x/\x.box=false:=by
 simp only[Ctx.only]at h
 split at h
 ·rename_i hm
  split at h
  ·rename_i row hr
   split at h
   ·cases h
   ·rename_i hb
    cases h
    exact⟨oA.1 hm,hr,by simpa using hb⟩
  ·cases h
 ·cases h
theorem yw{c:Ctx}(hm:r∈ks)(hr:c.R r=some x)(hb:x.box=false):(c.only ks).R r=some x:=by
 simp[Ctx.only,oA.2 hm,hr,hb]
theorem zR{c:Ctx}(hm:Mem c w)(ks:List Nat):Mem (c.only ks) w:=by
 refine⟨λr x hr=>?_,λr s x y hr hs=>?_,λb hb=>⟨(hm.fu b hb).1,λr x hr v=>?_⟩,hm.top,hm.kY⟩
 ·obtain⟨_,h1,h2⟩:=MP hr
  rcases hm.row r x h1 with h|⟨h0,arr,ha,hs,hx⟩
  ·exact .inl h
  ·refine .inr ⟨h0,arr,ha,hs,?_⟩
   rw[if_neg (by rw[h2];simp)]at hx⊢
   exact hx
 ·exact hm.inj r s x y (MP hr).2.1 (MP hs).2.1
 ·exact(hm.fu b hb).2 r x (MP hr).2.1 v
theorem Zjz{c:Ctx}(h:F9 R d=some d')(hl:∀r∈nU d,r∈ks)(hr:cz c w d v):cz (c.only ks) w d v:=by
 cases d<;>simp only[F9]at h<;>try(cases h;done)
 case all r=>
  obtain⟨row,g1,g2,g3⟩:=hr
  exact⟨row,yw (hl r (by simp[nU])) g1 g2,g2,g3⟩
 case own r o n=>
  obtain⟨row,g1,g2,g3,g4⟩:=hr
  exact⟨row,yw (hl r (by simp[nU])) g1 g2,g2,g3,g4⟩
 all_goals exact hr
theorem Zie{c:Ctx}{w:World}{R:Rows}{ks:List Nat}:∀{ds oB:List D} {vs:List Value},J2 R ds=some oB->(∀r∈rk ds,r∈ks)->jq c w ds vs->jq (c.only ks) w ds vs
 |[],_,[],_,_,_=>trivial
 |d ::ds,oB,v::vs,h,hl,hr=>by
  simp only[J2]at h
  split at h
  ·rename_i x xs h1 h2
   exact⟨Zjz h1 (λr e=>hl r (by simp[rk,e])) hr.1,Zie h2 (λr e=>hl r (by simp[rk,e])) hr.2⟩
  ·cases h
 |[],_,_::_,_,_,h=>h.elim
 |_::_,_,[],_,_,h=>h.elim
theorem yR{c:Ctx}(h:conv R d=some d')(hl:∀r∈Ga d,r∈ks)(hr:Rep c w d v):Rep (c.only ks) w d v:=by
 cases d with
 |agg cs=>
  simp only[conv,fP]at h
  obtain⟨xs,h1,_⟩:=h
  obtain⟨vs,hv,hx⟩:=hr
  exact⟨vs,hv,Zie h1 hl hx⟩
 |dt ds=>simp[conv,F9]at h
 |dead=>trivial
 |_=>
  simp only[conv]at h
  simp only[Rep,VRep]at hr⊢
  exact Zjz h hl hr
theorem Zab{R:Rows}{f:Nat->Nat}{ev:Operand->D}:∀{xs:List Operand} {az:List D},th R f [] (xs.map ev)=some az->∀x∈xs,∃y,conv R (ev x)=some y
 |[],_,_,x,hx=>by simp at hx
 |y ::xs,az,h,x,hx=>by
  simp only[fQ,th]at h
  split at h
  ·rename_i z zs h1 h2
   simp only[cS]at hx
   rcases hx with rfl|hx
   ·exact⟨_,h1⟩
   ·exact Zab h2 x hx
  ·cases h
theorem Zav{ev:Operand->D}{r:Nat}:∀{xs:List Operand} {x:Operand},x∈xs->r∈Ga (ev x)->r∈lW [] (xs.map ev)
 |y::xs,x,hx,hr=>by
  simp only[fQ,lW,bX]
  simp only[cS]at hx
  rcases hx with rfl|hx
  ·exact .inl hr
  ·exact .inr (Zav hx hr)
theorem Qoz{r:Nat}:∀{l ids:List Nat},r∈lS ids l->r∈ids\/r∈l
 |[],ids,h=>.inl h
 |x ::l,ids,h=>by
  simp only[lS]at h
  split at h
  ·rcases Qoz h with h|h
   ·exact .inl h
   ·exact .inr (by simp[h])
  ·rcases Qoz h with h|h
   ·simp only[bX,List.mem_singleton]at h
    rcases h with h|h
    ·exact .inl h
    ·exact .inr (by simp[h])
   ·exact .inr (by simp[h])
theorem vw{c:Ctx}(h:Rep c w d v):Rep {c with base:=0} w d v:=by
 cases d with
 |dt ds=>obtain⟨vs,hv,hx⟩:=h;exact⟨vs,hv,ZR hx⟩
 |dead=>trivial
 |_=>exact Rep.KW (Zba (Rep.toV (λds e=>by cases e) (λe=>by cases e) h))
theorem vR(hG:j5 P G){guard:Option (Nat×Bool)}
 (mb:pq G f=none) (h:Dh G M f (args.toList.map ev) R K):∃ks val R' x,K ks val R'/\oZ G f=some x/\(∀j,cf j ks=true->M<=j)/\Ce P ⟨dst,.call ⟨.value (.func f),args,dh⟩,type,pos',after,guard⟩ ev R ks val R':=by
 unfold Dh at h
 split at h
 ·rename_i x hx
  have wK:x.gone=none:=by simpa[pq,hx]using mb
  obtain⟨dz,hf⟩:=GC hG hx
  split at h
  ·rename_i az eh has iX
   simp only[db,aE]at h
   obtain⟨⟨⟨nA,Ad⟩,h3,u5,h4⟩,h⟩:=h
   have JaD:∀r,r∈lS [] (lW [] (args.toList.map ev))->r∈lW [] (args.toList.map ev):=λr hr=>by
    rcases Qoz hr with h|h
    ·cases h
    ·exact h
   generalize J1:lS [] (lW [] (args.toList.map ev))=ids at*
   have ly:=MN.1 h3
   have u5:=MM.1 u5
   have main :∀res aj,HH R [] ids res aj K->kr P x.f az [] res aj->
    ∃ks val R' y,K ks val R'/\oZ G f=some y/\(∀j,cf j ks=true->M<=j)/\Ce P ⟨dst,.call ⟨.value (.func f),args,dh⟩,type,pos',after,guard⟩ ev R ks val R':=by
    intro res aj hK hA
    simp only[HH,db,D.cu,ny]at hK
    obtain⟨_,hK⟩:=hK
    refine⟨_,_,_,x,hK,hx,λj hj=>lE (List.all_eq_true.1 h4 j (oA.1 hj)),λc w a hm hb hR fh K' Q rC=>?_⟩
    have pn:mV (c.only ids) R:=λr row ao g1 g2=>by
     have:=(MP g1).2.1
     rw[hR,g2]at this;exact(Option.some.inj this).symm
    have hmo:=zR hm ids
    have hn:=UY (c:=c.only ids) (R:=R) (ids:=[]) (eh:=[]) (len:=true) (w:=w) (λr row e=>by cases e) rfl
    have Jaa:∀y∈args.toList,Rep (c.only ids) w (ev y) (a.eval y):=λy hy=>by
     obtain⟨z,hz⟩:=Zab has y hy
     exact yR hz (λr hr=>u5 r (Zav hy hr)) (fh y (by simp[Op.operands,Call.operands];exact .inr (by simpa using hy)))
    rw[Z64 (λr=>r) (λr=>pos r [] 0)]at has
    have gb:=MO (len:=true) (ρ:=a.eval) hmo pn hn has (λ_=>rfl) (λr _ e=>by cases e) (λr e=>by rw[Qzs]at e;cases e) Jaa
    have mF:=hA _ w _ (ZX (R:=R) (len:=true) hmo (λr row e=>by cases e) (by simp) (λr e=>by simp[Di]at e) rfl) rfl (λr=>rfl) gb
    refine ZZ dz hf (dz.real wK) (mF.mono λe w' tg=>?_)
    obtain⟨v,c',he,nJ,j7,lg⟩:=tg
    have GR:∀r x,((c.only ids).pass w [] [] true).R r=some x->False:=λr x h=>by simp[Ctx.pass]at h
    obtain⟨gl,Bh⟩:=F8 iX
    have hxK:jJ (bK 0 (eh.length-0)) {c.pass w ids eh false with base:=0} w {c' with base:=0} w':=by
     refine⟨Zh0 nJ.mem,⟨rfl,nJ.cg.top,λb iH=>?_,λr x hr=>?_⟩,nJ.fr.mono λb _ ⟨r,x,h1,_⟩=>(GR r x h1).elim,λb iH=>?_,λr x hr hv=>?_⟩
     ·have:c.I b:=by
       rcases iH with h|⟨h,_⟩
       ·exact h
       ·cases h
      exact⟨(nJ.cg.I b (.inl this)).1,(nJ.cg.I b (.inl this)).2⟩
     ·obtain⟨h1,row,h2,_⟩:=Q3 hr
      have BF:eh[r]?=some row:=h2
      have:=(List.getElem?_eq_some_iff.1 BF).1
      rw[ML.2 (by omega)]at h1;cases h1
     ·rcases nJ.fu b iH with h|h
      ·rcases h with h|⟨_,r,row,g1,g2,g3,_,g5⟩
       ·exact .inl (.inl h)
       ·obtain⟨k1,k2,k3⟩:=MP g1
        have hp:=BI k1
        obtain⟨jC,q1,q2⟩:=Bh _ r hp
        have hl:=(List.getElem?_eq_some_iff.1 q2).1
        exact .inr (.inl ⟨_,_,ML.2 (by omega),q2,by simpa[Ctx.pass,Ctx.only,hp]using g2,by simpa[Ctx.pass,Ctx.only,hp]using g5⟩)
      ·exact .inr (.inr h)
     ·rcases nJ.oy r x hr hv with⟨⟨y,h1⟩,_⟩|h
      ·exact(GR r y h1).elim
      ·exact .inr (.inr h)
    have:=Zaw (k:=0) (c':={c' with base:=0}) hm hR ly iX (by simp) hxK j7 rfl
    simp only[List.take_zero,List.drop_zero]at this
    exact⟨v,he,rC v w' _ this.2 (λr=>rfl) (ZY this.1 (flat:=False) (.inl λb hb=>hb) (λ_=>trivial) (λe=>e.elim) (vw lg))⟩
   split at h
   ·rename_i α v res aj hm
    exact main _ _ (h v rfl) (dz.abs wK _ _ _ _ _ _ hm).1
   ·rename_i p α v res aj hm
    exact main _ _ (h.2 v rfl) (dz.lX wK _ _ _ _ _ _ _ hm h.1).1
   ·exact h.elim
  ·exact h.elim
 ·exact h.elim
