import Derived.Test.YtaemmjbkndlkeaaGreatMigrateCancelsFo
import Derived.Laws.Append
import Derived.Laws.CopyRow
import Derived.Laws.AppendOwn
open List renaming eq_nil_of_length_eq_zero->fA,map_cons->fG,append_assoc->aM,getElem?_take->aF,getElem?_drop->fI,getElem?_toArray->bH,getD->aV,length_take->aD,length_drop->aG,getElem?_append_left->bI,size_toArray->aK,getElem?_append_right->bJ,getElem?_eq_none->aJ,take_of_length_le->fD,getElem?_eq_getElem->aI,range'->bO,mem_of_getElem?->fL,mem_of_mem_take->fM,mem_of_mem_drop->fN,mem_cons->cQ,mem_append->cB
open Bool renaming false_eq_true->aA
open Option renaming map_eq_some_iff->fF
open Nat renaming add_zero->aB,succ_mul->bF,mul_le_mul_right->bD,zero_add->bG,mul_comm->fJ,le_refl->aX,add_mul->bK,le_trans->bL,le_mul_of_pos_right->fK
open Array renaming ext'->fH
set_option linter.all false
namespace Go.GD
open Go
variable {G:List bc}{I:ab}{K:List Nat->D->Rows->Prop}{M k n r sy sz:Nat}{P:Program}{R:Rows}{after:Array Edge}{args:Array Operand}{arr:Array Value}{d d' y:D}{dst:Option Tmp}{ev:Operand->D}{f:FuncId}{i:TypeInfo}{ks:List Nat}{pos':String}{row x:Row}{t tx ty type:TypeId}{dv:Array TypeId}{ux:TypeDesc}{v z:Value}{w w':World}{ys:ai}
section
variable {c:Ctx} {w:World} {ks:List Nat}
theorem wo(ks:List Nat)(row:Row):(row.kill ks).box=row.box/\(row.kill ks).ty=row.ty/\(row.kill ks).sz=row.sz/\(row.kill ks).es.l.length=row.es.l.length:=by
 unfold Row.kill;split<;>exact⟨rfl,rfl,rfl,rfl⟩
theorem Z1m:∀{e:List D},(D.kF ks e).length=e.length
 |[]=>rfl
 |d::l=>by simp[D.kF,Z1m (e:=l)]
theorem Zba(ia:∀f cs,d≠.gx f cs)(h:dk c w d v):dk (c.kill ks) w (d.ez ks) v:=by
 have key:∀r row,cw r ks=false->c.R r=some row->(c.kill ks).R r=some (row.kill ks):=λr row hr dc=>by simp[Ctx.kill,hr,dc]
 have h1:=dk.one h
 cases d with
 |all r=>
  simp only[D.ez]
  cases hr:cw r ks with
  |true=>exact h1
  |false=>
   obtain⟨row,g1,g2,g3⟩:=h
   obtain⟨s1,s2,s3,s4⟩:=wo ks row
   exact⟨_,key r row hr g1,s1.trans g2,by rw[s2,s3,s4];exact g3⟩
 |own r o n=>
  simp only[D.ez]
  cases hr:cw r ks with
  |true=>exact h1
  |false=>
   obtain⟨row,g1,g2,g3,g4⟩:=h
   obtain⟨s1,s2,s3,s4⟩:=wo ks row
   exact⟨_,key r row hr g1,s1.trans g2,by rw[s4];exact g3,by rw[s2,s3];exact g4⟩
 |ptr r i off=>
  simp only[D.ez]
  cases hr:cw r ks with
  |true=>exact h1
  |false=>
   obtain⟨row,g1,g2,g3,g4⟩:=h
   obtain⟨s1,s2,s3,s4⟩:=wo ks row
   exact⟨_,key r row hr g1,g2,by rw[s4];exact g3,by rw[s3];exact g4⟩
 |pa r i off len k n=>
  simp only[D.ez]
  cases hr:cw r ks with
  |true=>exact h1
  |false=>
   obtain⟨g0,row,g1,g2,g3,g4⟩:=h
   obtain⟨s1,s2,s3,s4⟩:=wo ks row
   exact⟨g0,_,key r row hr g1,g2,by rw[s4];exact g3,by rw[s3];exact g4⟩
 |gr r=>
  simp only[D.ez]
  cases hr:cw r ks with
  |true=>exact h1
  |false=>
   rcases h with h|⟨row,g1,g2,g3,g4⟩
   ·exact .inl h
   ·obtain⟨s1,s2,s3,s4⟩:=wo ks row
    exact .inr ⟨_,key r row hr g1,g2,by rw[s4];exact g3,by rw[s3];exact g4⟩
 |gx f cs=>exact absurd rfl (ia f cs)
 |_=>exact h
theorem qu(ia:∀f cs,d≠.gx f cs)(h:∀r∈nV d,cw r ks=false):d.ez ks=d:=by
 cases d<;>first|rfl|(simp only[D.ez];rw[h _ (by simp[nV])])|exact absurd rfl (ia _ _)
theorem SR(h:dk c w d v):dk (c.kill ks) w (d.ez ks) v:=by
 by_cases e:∃g cs,d=.gx g cs
 ·obtain⟨g,cs,rfl⟩:=e
  have h1:=dk.one h
  simp only[D.ez]
  cases hd:nW (oE cs) ks with
  |false=>exact h1
  |true=>
   obtain⟨us,hv,hu⟩:=h
   exact⟨us,hv,YT (c:=c) (w:=w) (c':=c.kill ks) (w':=w) (S:=λr=>cw r ks=false) (λd v q1 q2 q3=>by have:=Zba (ks:=ks) q1 q3;rwa [qu q1 q2]at this) (λ_ hb=>⟨hb,rfl⟩) (λr hr=>by
    have:=Z4.1 hd r hr
    cases hm:cw r ks with
    |false=>rfl
    |true=>exact(this (oa.1 hm)).elim) hu⟩
 ·exact Zba (λf cs e'=>e ⟨f,cs,e'⟩) h
theorem Zkj:∀{ds:List D} {vs:List Value},jr c w ds vs->jr (c.kill ks) w (D.kF ks ds) vs
 |[],[],_=>trivial
 |_::_,_::_,h=>⟨SR h.1,Zkj h.2⟩
 |[],_::_,h=>h.elim
 |_::_,[],h=>h.elim
theorem Zql(h:VRep c w d v):VRep (c.kill ks) w (d.kill ks) v:=by
 cases d with
 |agg cs=>obtain⟨vs,hv,hr⟩:=h;exact⟨vs,hv,Zkj hr⟩
 |_=>
  have:=SR (ks:=ks) (VRep.toC (λcs e=>by cases e) h)
  exact VRep.Eu this
theorem Zko:∀{ds:List D} {vs:List Value},ki c w ds vs->ki (c.kill ks) w (D.pX ks ds) vs
 |[],[],_=>trivial
 |_::_,_::_,h=>⟨Zql h.1,Zko h.2⟩
 |[],_::_,h=>h.elim
 |_::_,[],h=>h.elim
theorem Wz(h:Rep c w d v):Rep (c.kill ks) w (d.gy ks) v:=by
 cases d with
 |ee ds=>obtain⟨vs,hv,hr⟩:=h;exact⟨vs,hv,Zko hr⟩
 |dead=>trivial
 |_=>
  have:=Zql (ks:=ks) (Rep.toV (λds e=>by cases e) (λe=>by cases e) h)
  exact Rep.Kv this
theorem Zbl:∀{ds:List D} {arr:Array Value} {off:Nat},kN c w ds arr off->kN (c.kill ks) w (D.kF ks ds) arr off
 |[],_,_,_=>trivial
 |_::_,_,_,⟨⟨v,hv,h1⟩,h2⟩=>⟨⟨v,hv,SR h1⟩,Zbl h2⟩
theorem Zp9(h:Ey c w r row):Ey (c.kill ks) w r (row.kill ks):=by
 obtain⟨s1,s2,s3,s4⟩:=wo ks row
 rcases h with⟨h0,h1,h2,h3⟩|⟨h0,arr,ha,hs,hx⟩
 ·refine .inl ⟨h0,s1.trans h1,?_,by rw[s3];exact h3⟩
  rw[h2]at s4;exact fA s4
 ·refine .inr ⟨h0,arr,by rw[s2];exact ha,by rw[s3];exact hs,?_⟩
  rw[s1,s3]
  split
  ·rename_i hb
   simp only[hb,if_true]at hx
   obtain⟨e,k1,k2,k3,k4⟩:=hx
   obtain⟨box,ty,sz,es⟩:=row
   simp only at hb k1 k2 k3 k4
   subst hb;subst k1
   exact⟨D.kF ks e,rfl,by rw[Z1m];exact k2,k3,Zbl k4⟩
  ·rename_i hb
   simp only[hb,aA,if_false]at hx
   have he:(row.kill ks).es=row.es:=by
    unfold Row.kill
    split
    ·simp at hb
    ·rfl
   rw[he];exact hx
theorem nn(h:(c.kill ks).R r=some x):cw r ks=false/\∃row,c.R r=some row/\x=row.kill ks:=by
 simp only[Ctx.kill]at h
 cases hb:cw r ks with
 |true=>rw[hb]at h;simp at h
 |false=>
  rw[hb]at h
  simp only[aA,if_false,fF]at h
  obtain⟨row,h1,h2⟩:=h
  exact⟨rfl,row,h1,h2.symm⟩
theorem Sv(hm:Mem c w):Mem (c.kill ks) w:=by
 refine⟨λr x hx=>?_,λr s x y hx hy v1 v2 he=>?_,λb hb=>⟨(hm.fq b hb).1,λr x hx v=>?_⟩,hm.top,hm.j4⟩
 ·obtain⟨_,row,h1,rfl⟩:=nn hx
  exact Zp9 (hm.row r row h1)
 ·obtain⟨_,row,h1,_⟩:=nn hx
  obtain⟨_,ao,h2,_⟩:=nn hy
  exact hm.inj r s row ao h1 h2 v1 v2 he
 ·obtain⟨_,row,h1,_⟩:=nn hx
  exact(hm.fq b hb).2 r row h1 v
end
theorem Zqr:∀{l:List Nat},nW l []=true
 |[]=>rfl
 |x::l=>by simp only[nW,cw];exact Zqr
theorem Wy(d:D):d.ez []=d:=by
 cases d with
 |gx f cs=>simp only[D.ez,Zqr]
 |_=>rfl
theorem Wx:∀{ds:List D},D.kF [] ds=ds
 |[]=>rfl
 |d::l=>by simp only[D.kF,Wy,Wx (ds:=l)]
theorem Z4t(row:Row):row.kill []=row:=by
 unfold Row.kill;split
 ·simp[Wx]
 ·rfl
theorem yR(c:Ctx):c.kill []=c:=by
 obtain⟨ρ,R,V,I,base,top,X⟩:=c
 simp only[Ctx.kill,cw,aA,if_false]
 congr 1
 funext r
 cases R r<;>simp[Z4t]
theorem lO.toK{c c':Ctx}(h:lO c w c' w'):jP [] c w c' w':=
 ⟨h.mem,by rw[yR];exact h.db,h.fr,λb hb=>(h.fq b hb).imp id .inr,λr ao h1 h2=>(h.ov r ao h1 h2).imp id .inr⟩
theorem PS{ks:List Nat}:∀{R:Rows} {i r:Nat},(r6 ks R i).getD r none=if cw (i+r) ks=true then none else(R.getD r none).map (Row.kill ks)
 |[],i,r=>by simp[r6]
 |x::l,i,0=>by
  simp only[r6,aB]
  cases cw i ks<;>cases x<;>simp
 |x::l,i,r+1=>by
  have:=PS (ks:=ks) (R:=l) (i:=i+1) (r:=r)
  rw[show i+1+r=i+(r+1) by omega]at this
  simpa[r6]using this
theorem Qa{ks:List Nat}:∀{R:Rows} {i:Nat},(r6 ks R i).length=R.length
 |[],_=>rfl
 |x::l,i=>by simp[r6,Qa (R:=l)]
def si(ks:List Nat)(env:List (Nat×D)):List (Nat×D):=env.map λx=>(x.1,x.2.gy ks)
theorem H3{ks:List Nat}:∀{env:List (Nat×D)} {K:List (Nat×D)->Prop},Gq ks env K↔K (si ks env)
 |[],_=>Iff.rfl
 |(t,d)::l,K=>by
  simp only[Gq,D.dd]
  rw[H3 (env:=l) (K:=λl=>K ((t,d.gy ks)::l))]
  rfl
theorem BP{ks:List Nat}:∀{env:List (Nat×D)} {t:Nat},look (si ks env) t=(look env t).gy ks
 |[],_=>rfl
 |(u,d)::l,t=>by
  simp only[si,fG,look]
  cases Nat.beq u t with
  |true=>rfl
  |false=>exact BP (env:=l)
theorem Qpl(w:World){t tx ty e:TypeId}(ht:P.underlying t=some (.slice e))(pJ:P.underlying tx=some ux)(hx:∀k,ux≠.int k)(hi:P.info? e=some i)
 {a:Option Addr} {n cap m:Nat} {x:Value} {news:List Value} (hl:(Builtin.lenOf x).run P w=.ok m w) (hf:(Builtin.firstCells i.size m x).run P w=.ok news.toArray w) (kO:n+m<=cap) {w':World}
 (j5:∀b,a=some b->(storeCells (b.add (n*i.size)) news).run P w=.ok () w') (nm:a=none->w'=w):
 (Builtin.append_ #[t,tx] ty #[.slice a n cap,x]).run P w=.ok (.slice a (n+m) cap) w':=by
 have hz:(match ux with|.int _=>true|_=>false)=false:=by
  cases ux<;>first|rfl|exact absurd rfl (hx _)
 cases a with
 |none=>
  have:=nm rfl
  subst this
  simp[Builtin.append_,run_underlying ht,run_underlying pJ,hz,sizeOf,typeInfo,hi,hl,kO,hf]
 |some b=>simp[Builtin.append_,run_underlying ht,run_underlying pJ,hz,sizeOf,typeInfo,hi,hl,kO,hf,j5 b rfl]
theorem Qq6(w:World){t tx ty e:TypeId}(ht:P.underlying t=some (.slice e))(pJ:P.underlying tx=some ux)(hx:∀k,ux≠.int k)(hi:P.info? e=some i)(hz:i.zero=some z)
 {a:Option Addr} {n cap m:Nat} {x:Value} {kQ news:List Value} (hl:(Builtin.lenOf x).run P w=.ok m w) (hf:(Builtin.firstCells i.size m x).run P w.drew=.ok news.toArray w.drew) (hfo:(Builtin.firstCells i.size n (.slice a n cap)).run P w.drew=.ok kQ.toArray w.drew)
 (hg:cap<n+m) (h63:((n+m:Nat):Int)<=9223372036854775807) (mU:Builtin.nextslicecap (n+m) cap*i.bytes<=281474976710656):
 (Builtin.append_ #[t,tx] ty #[.slice a n cap,x]).run P w=.ok (.slice (some ⟨w.heap.size,0,none⟩) (n+m) (grownCap w (n+m) cap e))
  (w.drew.alloc (.cells (kQ.toArray++news.toArray++Builtin.zeroCells z.cells (grownCap w (n+m) cap e-(n+m))) e)):=by
 have hn:¬(n+m<=cap):=by omega
 have YU:¬(9223372036854775807<((n:Int)+(m:Int))):=by omega
 have YV:¬(281474976710656<Builtin.nextslicecap (n+m) cap*i.bytes):=by omega
 simp[Builtin.append_,run_underlying ht,run_underlying pJ,sizeOf,typeInfo,zeroValue,hi,hz,hl,hn,YU,YV,Question.forced,hf,hfo,newRow,grownCap]
 congr 2
 apply fH
 simp[aM]
theorem xu{b o:Nat}{fz:Nat×Nat}(h:w.heap[b]?=some (.cells arr ty fz))(j:Nat):w.cell? ((⟨b,o,none⟩:Addr).add j)=arr[o+j]? :=by
 rw[Fl]
 unfold World.cell?
 simp[h]
theorem Sw{es:List (List D)}{off sz:Nat}(h:iA I w es arr off sz)(h0:0<sz):∃news:List Value,news.length=es.length*sz/\(∀j u,news[j]?=some u->arr[off+j]?=some u)/\iA I w es news.toArray 0 sz:=by
 have gd:es.length*sz<=arr.size-off:=by
  by_cases he:es.length=0
  ·rw[he];omega
  ·obtain⟨h1,h2⟩:=tF.1 h (es.length-1) (by omega)
   obtain⟨v,hv,_⟩:=ub.1 h2 (sz-1) (by omega)
   have bg:=(Array.getElem?_eq_some_iff.1 hv).1
   have:es.length*sz=(es.length-1)*sz+sz:=by
    rw[show es.length*sz=(es.length-1+1)*sz by congr 1;omega,bF]
   omega
 refine⟨(arr.toList.drop off).take (es.length*sz),by simp;omega,λj u hj=>?_,?_⟩
 ·rw[aF]at hj
  split at hj
  ·rw[fI]at hj
   simpa using hj
  ·cases hj
 ·rw[tF]at h⊢
  intro i hi
  obtain⟨h1,h2⟩:=h i hi
  refine⟨h1,?_⟩
  rw[ub]at h2⊢
  intro j hj
  obtain⟨v,hv,hp⟩:=h2 j hj
  refine⟨v,?_,hp⟩
  have bg:i*sz+j<es.length*sz:=by
   have:=bD sz (show i+1<=es.length by omega)
   rw[bF]at this
   omega
  simp only[bG,bH]
  rw[aF,if_pos bg,fI,<-hv]
  simp[Nat.add_assoc]
theorem iA.one{es:List (List D)}{news:List Value}(h:iA I w es news.toArray 0 sz)(hl:news.length=es.length*sz):∀u∈news,u.oneCell'=true:=by
 intro u hu
 obtain⟨j,hj⟩:=List.getElem?_of_mem hu
 have bg:=(List.getElem?_eq_some_iff.1 hj).1
 have h0:0<sz:=by
  rcases Nat.eq_zero_or_pos sz with h0|h0
  ·subst h0;simp at hl;rw[hl]at bg;simp at bg
  ·exact h0
 have hi:j/sz<es.length:=by rw[Nat.div_lt_iff_lt_mul h0];omega
 obtain⟨h1,h2⟩:=tF.1 h (j/sz) hi
 obtain⟨v,hv,hp⟩:=ub.1 h2 (j%sz) (by rw[h1];exact Nat.mod_lt _ h0)
 have e:0+j/sz*sz+j%sz=j:=by rw[bG,fJ];exact Nat.div_add_mod j sz
 rw[e,bH,hj]at hv
 cases hv
 exact gm.one hp
theorem Zm4(s:List UInt8):iA I w (ai.ints .u8 (pB s)).l (s.map λb=>Value.int .u8 b.toNat).toArray 0 1:=by
 rw[tF]
 intro i hi
 have iL:i<s.length:=by simpa[pB,ai.l]using hi
 have he:(ai.ints .u8 (pB s)).l.getD i []=[.int .u8 s[i].toNat]:=by simp[pB,ai.l,aV,iL]
 rw[he]
 refine⟨rfl,?_⟩
 simp only[DH,DI,sr,ss,su,sw,sx,sA,tH,ud,ue,uf,ug,uh,ui,uj,uk,um,and_true]
 exact⟨_,by simp[iL],rfl⟩
def Src(P:Program)(c:Ctx)(w:World)(v:Value)(ys:List (List D))(sz:Nat):Prop:=
 ∃news:List Value,news.length=ys.length*sz/\(Builtin.lenOf v).run P w=.ok ys.length w/\(∀k,k<=ys.length->∀w',w'.heap=w.heap->(Builtin.firstCells sz k v).run P w'=.ok (news.take (k*sz)).toArray w')/\iA c.I w ys news.toArray 0 sz
theorem Js{c:Ctx}(h0:0<sz){es:List (List D)}{a:Option Addr}{cap:Nat}(il:es=[]\/sy=sz/\∃b off arr ty fz,a=some ⟨b,off,none⟩/\w.heap[b]?=some (.cells arr ty fz)/\iA c.I w es arr off sy):
 Src P c w (.slice a es.length cap) es sz:=by
 rcases il with il|⟨hss,b,off,arr,ty,fz,ha,hh,hE⟩
 ·subst il
  refine⟨[],by simp,by simp[Builtin.lenOf],λk hk w' _=>?_,by simp[rz,pY]⟩
  have Ai:k=0:=by simpa using hk
  subst Ai
  cases a with
  |none=>simp[Builtin.firstCells]
  |some a=>
   have:=run_firstCells_some (P:=P) w' sz 0 a 0 cap [] (by simp) (λj v h=>by simp at h)
   simpa using this
 ·subst hss
  obtain⟨news,g1,g2,g3⟩:=Sw hE h0
  refine⟨news,g1,by simp[Builtin.lenOf],λk hk w' YW=>?_,g3⟩
  subst ha
  refine run_firstCells_some (P:=P) w' sy k ⟨b,off,none⟩ _ cap (news.take (k*sy)) ?_ λj u hj=>?_
  ·have:=bD sy hk
   simp;omega
  ·rw[xu (by rw[YW];exact hh)]
   rw[aF]at hj
   split at hj
   ·exact g2 j u hj
   ·cases hj
theorem y7{c:Ctx}(h0:0<sz)(h:sB R y=some (sy,ys))(hs:sy=sz\/ys.l=[])(hm:Mem c w)(hA:mn c R)(hr:Rep c w y v):Src P c w v ys.l sz:=by
 cases y<;>simp only[sB]at h<;>try(cases h;done)
 case de=>cases h;rw[show v=_ from hr];exact Js (sy:=sz) h0 (es:=[]) (.inl rfl)
 case emp=>cases h;obtain⟨a,hv,_⟩:=hr;rw[hv];exact Js (sy:=sz) h0 (es:=[]) (.inl rfl)
 case sl s es fr=>
  cases h
  obtain⟨a,cap,hv,hc,il⟩:=hr
  rw[hv]
  refine Js (sy:=sy) h0 ?_
  rcases il with il|⟨b,off,arr,ty,fz,ha,hI,hf,hh,hE⟩
  ·exact .inl il
  ·rcases hs with hs|hs
   ·exact .inr ⟨hs,b,off,arr,ty,fz,ha,hh,hE⟩
   ·exact .inl hs
 case all r=>
  split at h
  ·rename_i ty s es hR
   cases h
   obtain⟨row,g1,g2,hv⟩:=hr
   have:=hA r row _ g1 hR
   subst this
   rcases hv with⟨hV,a,hv,_⟩|⟨hV,cap,arr,hv,g3,g4,g5,g6⟩
   ·have he:=(hm.nH g1 hV).2.1
    simp only at he
    rw[hv,he]
    exact Js (sy:=sz) h0 (es:=[]) (.inl rfl)
   ·obtain⟨iR,jH,jb,hx⟩:=hm.real g1 hV
    simp only at g5 jH hx hv
    rw[g5]at jH;cases jH
    simp only[aA,if_false]at hx
    rw[hv]
    refine Js (sy:=sy) h0 ?_
    rcases hs with hs|hs
    ·exact .inr ⟨hs,_,0,arr,_,_,rfl,g5,hx⟩
    ·exact .inl hs
  ·cases h
 case own r o n=>
  split at h
  ·rename_i ty s es hR
   cases h
   obtain⟨row,g1,g2,g5,hv⟩:=hr
   have:=hA r row _ g1 hR
   subst this
   simp only at g5
   have hlen:((es.l.drop o).take n).length=n:=by simp only[aD,aG];omega
   rw[ai.je,ai.kz]at hs⊢
   rcases hv with⟨g7,a,hv,_⟩|⟨hV,cap,arr,g3,g4,g6,hv,g7⟩
   ·subst g7
    rw[hv]
    have:=Js (P:=P) (c:=c) (w:=w) (sy:=sz) h0 (es:=(es.l.drop o).take 0) (a:=a) (cap:=0) (.inl (by simp))
    simpa using this
   ·obtain⟨iR,jH,jb,hx⟩:=hm.real g1 hV
    simp only at g6 jH hx hv
    rw[g6]at jH;cases jH
    simp only[aA,if_false]at hx
    have hE:=Mi (n:=n) (Kq (l:=o) hx)
    have:=Js (P:=P) (c:=c) (w:=w) (sy:=sy) h0 (es:=(es.l.drop o).take n) (a:=some ⟨c.ρ r,o*sy,none⟩) (cap:=cap) (by
     rcases hs with hs|hs
     ·exact .inr ⟨hs,_,o*sy,arr,_,_,rfl,g6,by simpa using hE⟩
     ·exact .inl hs)
    rw[hlen]at this
    rw[hv];exact this
  ·cases h
theorem v7{c:Ctx}{ke kx:TK}(h0:0<sz)(h:CF R ke kx y=some (sy,ys))(hs:sy=sz\/ys.l=[])(hm:Mem c w)(hA:mn c R)(hr:Rep c w y v):Src P c w v ys.l sz:=by
 unfold CF at h
 split at h
 ·exact y7 h0 h hs hm hA hr
 ·split at h
  ·rename_i s
   cases h
   have hv:=Rep.str.1 hr
   subst hv
   have gd:(ByteArray.mk s.toArray).size=s.length:=by simp[ByteArray.size]
   have ext:∀k,((ByteArray.mk s.toArray).extract 0 k).data.toList=s.take k:=λk=>by
    simp[ByteArray.data_extract]
   have hf:∀k w',(Builtin.firstCells sz k (.string ⟨s.toArray⟩)).run P w'=.ok ((s.map λb=>Value.int .u8 b.toNat).take k).toArray w':=λk w'=>by
    simp only[Builtin.firstCells,Sem.run_pure]
    congr 1
    apply fH
    simp only[Array.toList_map,ext,List.map_take]
   rcases hs with hs|hs
   ·subst hs
    exact⟨s.map λb=>Value.int .u8 b.toNat,by simp[pB,ai.len],by simp[Builtin.lenOf,pB,ai.len,gd],λk hk w' _=>by rw[hf];simp,Zm4 s⟩
   ·have:s=[]:=by simpa[pB,ai.l]using hs
    subst this
    exact⟨[],by simp[pB,ai.len],by simp[Builtin.lenOf,pB,ai.len,gd],λk hk w' _=>by rw[hf];simp,by simp[pB,ai.l,rz,pY]⟩
  ·cases h
 ·cases h
def Ctx.jA(c:Ctx)(k:Nat)(row:Row):Ctx:={c with R:=λr=>if r=k then some row else c.R r,V:=λr=>r=k\/c.V r}
theorem SU{c:Ctx}(hk:c.R k=none)(row:Row):jh c w (c.jA k row) w:=by
 refine⟨rfl,aX _,λb hb=>⟨hb,rfl⟩,λr x hr=>?_⟩
 have ia:r≠k:=λe=>by rw[e,hk]at hr;cases hr
 exact⟨x,by simp[Ctx.jA,ia,hr],rfl,rfl,rfl,rfl,rfl,by simp[Ctx.jA,ia],λ_ arr ha=>⟨arr,ha,rfl⟩⟩
theorem WC{c:Ctx}(hm:Mem c w)(hk:c.R k=none)(hb:row.box=false)(he:row.es.l=[])(h0:0<row.sz):Mem (c.jA k row) w:=by
 have hg:=SU (w:=w) hk row
 have inv:∀r x,(c.jA k row).R r=some x->¬(c.jA k row).V r->c.R r=some x/\¬c.V r:=λr x hr hv=>by
  have h1:¬r=k:=λe=>hv (.inl e)
  exact⟨by simpa[Ctx.jA,h1]using hr,λe=>hv (.inr e)⟩
 refine⟨λr x hr=>?_,λr s x y hr hs v1 v2 h=>?_,λb iu=>⟨(hm.fq b iu).1,λr x hr v=>?_⟩,hm.top,hm.j4⟩
 ·by_cases e:r=k
  ·subst e
   simp only[Ctx.jA,if_true,Option.some.injEq]at hr
   subst hr
   exact .inl ⟨.inl rfl,hb,he,h0⟩
  ·have pT:c.R r=some x:=by simpa[Ctx.jA,e]using hr
   exact tE hg rfl (by simp[Ctx.jA,e]) (λ_=>rfl) (hm.row r x pT)
 ·obtain⟨h1,h2⟩:=inv r x hr v1
  obtain⟨h3,h4⟩:=inv s y hs v2
  exact hm.inj r s x y h1 h3 h2 h4 h
 ·obtain⟨h1,h2⟩:=inv r x hr v
  exact(hm.fq b iu).2 r x h1 h2
theorem Kl(c:Ctx)(w:World):jh c w c w.drew:=⟨rfl,aX _,λb hb=>⟨hb,rfl⟩,λr row hr=>⟨row,hr,rfl,rfl,rfl,rfl,rfl,Iff.rfl,λ_ arr ha=>⟨arr,ha,rfl⟩⟩⟩
theorem HR{c:Ctx}(h:Mem c w):Mem c w.drew:=
 ⟨λr row hr=>tE (Kl c w) rfl Iff.rfl (λ_=>rfl) (h.row r row hr),h.inj,h.fq,h.top,h.j4⟩
theorem Sx{es ys:List (List D)}{A B C:List Value}(h1:iA I w es A.toArray 0 sz)(hA:A.length=es.length*sz)(h2:iA I w ys B.toArray 0 sz)(hB:B.length=ys.length*sz):iA I w (es++ys) (A++B++C).toArray 0 sz:=by
 rw[tF]at h1 h2⊢
 intro i hi
 by_cases bg:i<es.length
 ·have he:(es++ys).getD i []=es.getD i []:=by simp[aV,bI bg]
  rw[he]
  obtain⟨g1,g2⟩:=h1 i bg
  refine⟨g1,?_⟩
  rw[ub]at g2⊢
  intro j hj
  obtain⟨v,hv,hp⟩:=g2 j hj
  refine⟨v,?_,hp⟩
  have hl:=(Array.getElem?_eq_some_iff.1 hv).1
  simp only[bH,aK]at hv hl⊢
  rw[aM,bI hl];exact hv
 ·have iL:i-es.length<ys.length:=by simp at hi;omega
  have he:(es++ys).getD i []=ys.getD (i-es.length) []:=by simp[aV,bJ (show es.length<=i by omega)]
  rw[he]
  obtain⟨g1,g2⟩:=h2 _ iL
  refine⟨g1,?_⟩
  rw[ub]at g2⊢
  intro j hj
  obtain⟨v,hv,hp⟩:=g2 j hj
  refine⟨v,?_,hp⟩
  have hl:=(Array.getElem?_eq_some_iff.1 hv).1
  simp only[bH,aK]at hv hl⊢
  have e:0+i*sz+j=A.length+(0+(i-es.length)*sz+j):=by
   rw[hA,show i*sz=(es.length+(i-es.length))*sz by congr 1;omega,bK];omega
  rw[e,aM,bJ (by omega),bI (by omega)]
  rw[show A.length+(0+(i-es.length)*sz+j)-A.length=0+(i-es.length)*sz+j by omega]
  exact hv
theorem vR{c:Ctx}(hm:Mem c w){row ao:Row}{cur arr:Array Value}(hr:c.R r=some row)(hV:¬c.V r)(hk:c.R k=none)(hh:w.heap[c.ρ r]?=some (.cells cur row.ty (0,0)))(Ki:ao.ty=row.ty)(h0:0<ao.sz)(hb:ao.box=false)
 (hE:∀w',(∀b,c.I b->w'.heap[b]?=w.heap[b]?)->iA c.I w' ao.es.l arr 0 ao.sz):
 jh (c.kill [r]) w ((c.kill [r]).add k ao (c.ρ r)) (w.setRow (c.ρ r) arr)/\Mem ((c.kill [r]).add k ao (c.ρ r)) (w.setRow (c.ρ r) arr):=by
 have tU:=Sv (ks:=[r]) hm
 have By:(c.kill [r]).R k=none:=by simp[Ctx.kill,hk]
 have nm:∀s x,(c.kill [r]).R s=some x->s≠r/\s≠k:=λs x hs=>by
  obtain⟨h1,jM,h2,_⟩:=nn hs
  refine⟨λe=>?_,λe=>by rw[e,By]at hs;cases hs⟩
  rw[e]at h1
  have:=oa (r:=r) (l:=[r])
  simp[h1]at this
 have fj:(w.setRow (c.ρ r) arr).heap[c.ρ r]?=some (.cells arr row.ty (0,0)):=setRow_heap w _ _ _ _ _ hh
 have sd:∀s x,(c.kill [r]).R s=some x->¬c.V s->(w.setRow (c.ρ r) arr).heap[c.ρ s]?=w.heap[c.ρ s]? :=λs x hs v=>setRow_other w _ _ _ λe=>by
  obtain⟨_,jM,h2,_⟩:=nn hs
  exact(nm s x hs).1 (hm.inj s r jM row h2 hr v hV e)
 have hI:∀b,c.I b->(w.setRow (c.ρ r) arr).heap[b]?=w.heap[b]? :=λb hb=>setRow_other w _ _ _ (λe=>(hm.fq b hb).2 r row hr hV e.symm)
 have hg:jh (c.kill [r]) w ((c.kill [r]).add k ao (c.ρ r)) (w.setRow (c.ρ r) arr):=by
  refine⟨rfl,aX _,λb hb=>⟨hb,hI b hb⟩,λs x hs=>?_⟩
  obtain⟨n1,n2⟩:=nm s x hs
  exact⟨x,by simp[Ctx.add,n2,hs],rfl,rfl,rfl,rfl,by simp[Ctx.add,n2],by simp[Ctx.add,n2],λv a ha=>⟨a,(sd s x hs v).trans ha,rfl⟩⟩
 have inv:∀s x,((c.kill [r]).add k ao (c.ρ r)).R s=some x->¬((c.kill [r]).add k ao (c.ρ r)).V s->(s=k/\((c.kill [r]).add k ao (c.ρ r)).ρ s=c.ρ r)\/(s≠k/\s≠r/\((c.kill [r]).add k ao (c.ρ r)).ρ s=c.ρ s/\¬c.V s/\∃y,c.R s=some y):=λs x hs v=>by
  by_cases e:s=k
  ·exact .inl ⟨e,by simp[Ctx.add,e]⟩
  ·have jb:(c.kill [r]).R s=some x:=by simpa[Ctx.add,e]using hs
   obtain⟨_,y,hy,_⟩:=nn jb
   have v':¬c.V s:=λh=>v (by simp only[Ctx.add];exact⟨e,h⟩)
   exact .inr ⟨e,(nm s x jb).1,by simp[Ctx.add,e,Ctx.kill],v',y,hy⟩
 refine⟨hg,⟨λs x hs=>?_,λs q x y hs hq v1 v2 he=>?_,λb iu=>?_,by show c.top<=(w.setRow _ _).heap.size;simpa[World.setRow]using hm.top,hm.j4.mono hg.I⟩⟩
 ·by_cases e:s=k
  ·subst e
   simp only[Ctx.add,if_true,Option.some.injEq]at hs
   subst hs
   refine .inr ⟨by simp[Ctx.add],arr,by simp only[Ctx.add,if_true];rw[Ki];exact fj,h0,?_⟩
   rw[hb]
   simp only[aA,if_false]
   exact hE _ hI
  ·have jb:(c.kill [r]).R s=some x:=by simpa[Ctx.add,e]using hs
   exact tE hg (by simp[Ctx.add,e]) (by simp[Ctx.add,e]) (λv=>sd s x jb v) (tU.row s x jb)
 ·rcases inv s x hs v1 with⟨e1,p1⟩|⟨e1,p1,p2,p3,y1,p4⟩<;>rcases inv q y hq v2 with⟨e2,q1⟩|⟨e2,q1,q2,q3,y2,q4⟩
  ·rw[e1,e2]
  ·rw[p1,q2]at he
   exact(q1 (hm.inj q r y2 row q4 hr q3 hV he.symm)).elim
  ·rw[p2,q1]at he
   exact(p1 (hm.inj s r y1 row p4 hr p3 hV he)).elim
  ·rw[p2,q2]at he
   exact hm.inj s q y1 y2 p4 q4 p3 q3 he
 ·refine⟨by simpa[World.setRow]using(hm.fq b iu).1,λs x hs v=>?_⟩
  rcases inv s x hs v with⟨e1,p1⟩|⟨e1,p1,p2,p3,y1,p4⟩
  ·rw[p1];exact(hm.fq b iu).2 r row hr hV
  ·rw[p2];exact(hm.fq b iu).2 s y1 p4 p3
def BN(P:Program)(o:Oper)(ev:Operand->D)(R:Rows)(ks:List Nat)(val:D)(R':Rows):Prop:=
 ∀ (c:Ctx) (w:World) (a:Act),Mem c w->c.base<=w.heap.size->(∀r,c.R r=R.getD r none)->(∀x∈o.op.operands,Rep c w (ev x) (a.eval x))->
  ∀K Q,(∀v w' c',jP ks c w c' w'->(∀r,c'.R r=R'.getD r none)->Rep c' w' val v->K (a.put o.dst v) w')->o.nu P a w K Q
theorem Ew.toK{o:Oper}{val:D}{R':Rows}(h:Ew P o ev R val R'):BN P o ev R [] val R':=
 λc w a hm hb hR fe K Q hK=>h c w a hm hb hR fe K Q λv w' c' hn j8 hv=>hK v w' c' hn.toK j8 hv
section
variable {P:Program} {c:Ctx} {w:World} {R:Rows} {ks:List Nat} {e sz lH:Nat} {es ys:ai}
theorem UD{ρ':Nat->Nat}{V':Nat->Prop}(hR:∀r,c.R r=R.getD r none):∀r,(if r=R.length then some row else(c.kill ks).R r)=(r6 ks R 0++[some row]).getD r none:=by
 intro r
 by_cases e:r=R.length
 ·subst e
  simp[aV,bJ,Qa]
 ·rw[if_neg e]
  by_cases bg:r<R.length
  ·rw[aV,bI (by rw[Qa];exact bg),<-aV,PS]
   simp[Ctx.kill,hR]
  ·rw[aV,aJ (by simp[Qa];omega)]
   simp[Ctx.kill,hR,aJ (show R.length<=r by omega)]
theorem append_empty(ht:P.underlying t=some (.slice e))(pJ:P.underlying tx=some ux)(hx: ∀k,ux≠ .int k)(hi:P.info? e=some i)(hz:i.zero=some z)(gd:i.size=sz)(uL:i.bytes=lH)(AU:z.cells.size=sz)
    (hm:Mem c w) (hb:c.base<=w.heap.size) (hR: ∀r,c.R r=R.getD r none) (h0:0<sz) (sO:0<lH) (oF:lH*(0+ys.l.length)<=140737488355328) {a:Option Addr} (CG:CH c.top a) {vy:Value} (hs:Src P c w vy ys.l sz):
    ∃v' w' c',(Builtin.append_ #[t,tx] ty #[.slice a 0 0,vy]).run P w= .ok v' w'/\jP ks c w c' w'/\(∀r,c'.R r=(r6 ks R 0++[some (⟨false,e,sz,ys⟩:Row)]).getD r none)/\Rep c' w' (.all R.length) v':=by
  obtain⟨news,g1,g2,g3,g4⟩:=hs
  have hk:c.R R.length=none:=by rw[hR];simp [aV]
  have By:(c.kill ks).R R.length=none:=by simp [Ctx.kill,hk]
  have tU:=Sv (ks:=ks) hm
  subst gd
  by_cases hm0:ys.l.length=0
  . have SY:ys.l=[]:=fA hm0
    have hn:news=[]:=fA (by rw[g1,hm0];simp)
    subst hn
    rw[SY]at g2 g3
    have iy:=Qpl (P:=P) w (ty:=ty) (n:=0) (cap:=0) (a:=a) (w':=w) ht pJ hx hi g2 (by simpa using g3 0 (aX _) w rfl) (by simp) (λb _=>by simp [storeCells]) (λ_=>rfl)
    refine⟨_,w,(c.kill ks).jA R.length ⟨false,e,i.size,ys⟩,iy,⟨WC tU By rfl SY h0,SU By _,Fr.refl _ w,λb hb=> .inl hb,λr ao h1 h2=> ?_⟩,UD (ρ':=c.ρ) (V':=c.V) hR,?_⟩
    . have ia:r≠R.length:=λe=>h2 (.inl e)
      have se:(c.kill ks).R r=some ao:=by simpa [Ctx.jA,ia] using h1
      obtain⟨_,jM,h3,_⟩:=nn se
      exact .inl ⟨⟨jM,h3⟩,λe=>h2 (.inr e),rfl⟩
    . exact⟨⟨false,e,i.size,ys⟩,by simp [Ctx.jA],rfl, .inl ⟨.inl rfl,a,rfl,CG⟩⟩
  . have hlen:(0+ys.l.length:Nat)*i.bytes<=140737488355328:=by rw[uL,fJ];exact oF
    have IC:0+ys.l.length<=140737488355328:=bL (fK _ (by rw[uL];exact sO)) hlen
    have YX:0+ys.l.length<=maxLen:=by unfold maxLen;omega
    have iy:=Qq6 (P:=P) w (ty:=ty) (n:=0) (cap:=0) (a:=a) (kQ:=[]) (news:=news) ht pJ hx hi hz g2
      (by have:=g3 _ (aX _) w.drew rfl;rwa [fD (by omega)]at this)
      (by cases a with
          |none=>simp [Builtin.firstCells]
          |some a=>simpa using run_firstCells_some (P:=P) w.drew i.size 0 a 0 0 [] (by simp) (λj v h=>by simp at h)) (by omega) (by omega) (growslice_fits (by omega) hlen)
    have gz:=grownCap_ge w (0+ys.l.length) 0 e
    have Ar:grownCap w (0+ys.l.length) 0 e<=maxLen:=grownCap_le_maxLen w _ _ e YX
    generalize grownCap w (0+ys.l.length) 0 e=gc at iy gz Ar
    have pK:(#[]++news.toArray++Builtin.zeroCells z.cells (gc-(0+ys.l.length))).size=gc*i.size:=by
      have e1:(#[]++news.toArray++Builtin.zeroCells z.cells (gc-(0+ys.l.length))).size=ys.l.length*i.size+(gc-(0+ys.l.length))*i.size:=by
        simp [size_zeroCells,AU,g1]
      rw[e1,<-bK]
      congr 1;omega
    have hE: ∀(I:ab) (w':World),(∀b,c.I b->I b/\w'.heap[b]? =w.heap[b]?)->iA I w' ys.l (#[]++news.toArray++Builtin.zeroCells z.cells (gc-(0+ys.l.length))) 0 i.size:=λI w' h=>by
      have:=Sx (I:=I) (w:=w') (es:=[]) (ys:=ys.l) (A:=[]) (B:=news) (C:=(Builtin.zeroCells z.cells (gc-(0+ys.l.length))).toList) (sz:=i.size) (by simp [rz,pY]) (by simp) (nJ h _ _ _ _ g4) g1
      have h2:(#[]++news.toArray++Builtin.zeroCells z.cells (gc-(0+ys.l.length)))=([]++news++(Builtin.zeroCells z.cells (gc-(0+ys.l.length))).toList).toArray:=by apply fH;simp
      rw[h2];simpa using this
    have G6:=Mem.alloc (w:=w.drew) (HR tU) By ⟨false,e,i.size,ys⟩ (#[]++news.toArray++Builtin.zeroCells z.cells (gc-(0+ys.l.length))) h0 (by
      simp only[aA,if_false]
      exact hE _ _ λb hb=>⟨hb,rfl⟩)
    have oG:=UE (c:=c.kill ks) (w:=w.drew) (k:=R.length) (e:=e) (sz:=i.size) (cap:=gc) (es:=ys) (arr:= #[]++news.toArray++Builtin.zeroCells z.cells (gc-(0+ys.l.length))) (by omega) Ar pK.symm
    refine⟨_,_,(c.kill ks).add R.length ⟨false,e,i.size,ys⟩ w.heap.size,iy,⟨G6,(Kl _ w).trans (jh.alloc (w:=w.drew) (HR tU) By _ _),?_,λb hb=> .inl hb,λr ao h1 h2=> ?_⟩,UD (ρ':=c.ρ) (V':=c.V) hR,by have h3:=oG;simp only[bG]at h3⊢;exact h3⟩
    . exact Fr.trans (w':=w.drew) ⟨rfl,rfl,rfl,aX _,λ_ _ _=>rfl⟩ (Fr.alloc _ w.drew _)
    . by_cases e1:r=R.length
      . subst e1
        right;right
        simp [Ctx.add]
      . have se:(c.kill ks).R r=some ao:=by simpa [Ctx.add,e1] using h1
        obtain⟨_,jM,h3,_⟩:=nn se
        exact .inl ⟨⟨jM,h3⟩,by simpa [Ctx.add,e1,Ctx.kill] using h2,by simp [Ctx.add,e1,Ctx.kill]⟩
theorem Zk7(ht:P.underlying t=some (.slice e))(pJ:P.underlying tx=some ux)(hx:∀k,ux≠.int k)(hi:P.info? e=some i)(hz:i.zero=some z)(gd:i.size=sz)(uL:i.bytes=lH)(AU:z.cells.size=sz)
 (hm:Mem c w) (hb:c.base<=w.heap.size) (hR:∀r,c.R r=R.getD r none) (h0:0<sz) (sO:0<lH) (oF:lH*(es.l.length+ys.l.length)<=140737488355328) {r:Nat} {row:Row} (q1:c.R r=some row) (Ki:row.ty=e) (hV:¬c.V r) {cap:Nat} {cur:Array Value} (h1:es.l.length<=cap) (h2:cap<=maxLen) (h3:w.heap[c.ρ r]?=some (.cells cur e (0,0))) (h4:cap*sz=cur.size) (Bz:iA c.I w es.l cur 0 sz) {vy:Value} (hs:Src P c w vy ys.l sz):
 ∃v' w' c',(Builtin.append_ #[t,tx] ty #[.slice (some ⟨c.ρ r,0,none⟩) es.l.length cap,vy]).run P w=.ok v' w'/\jP [r] c w c' w'/\(∀q,c'.R q=(r6 [r] R 0++[some (⟨false,e,sz,es.app ys⟩:Row)]).getD q none)/\Rep c' w' (.all R.length) v':=by
 obtain⟨news,g1,g2,g3,g4⟩:=hs
 have hk:c.R R.length=none:=by rw[hR];simp[aV]
 have By:(c.kill [r]).R R.length=none:=by simp[Ctx.kill,hk]
 have tU:=Sv (ks:=[r]) hm
 subst gd
 have hlen:(es.l.length+ys.l.length)*i.bytes<=140737488355328:=by rw[uL,fJ];exact oF
 have IC:es.l.length+ys.l.length<=140737488355328:=bL (fK _ (by rw[uL];exact sO)) hlen
 have YX:es.l.length+ys.l.length<=maxLen:=by unfold maxLen;omega
 obtain⟨kQ,o1,o2,o3⟩:=Sw Bz h0
 by_cases kO:es.l.length+ys.l.length<=cap
 ·have mU:es.l.length*i.size+0+news.length<=cur.size:=by rw[g1,<-h4,aB,<-bK];exact bD _ kO
  have j5:=run_storeCells_at (P:=P) (c.ρ r) (es.l.length*i.size) e news 0 cur w h3 mU (iA.one g4 g1)
  simp only[aB]at j5 mU
  have iy:=Qpl (P:=P) w (ty:=ty) (n:=es.l.length) (cap:=cap) (a:=some ⟨c.ρ r,0,none⟩) ht pJ hx hi g2 (by have:=g3 _ (aX _) w rfl;rwa [fD (by omega)]at this) kO (λb hb=>by cases hb;rw[Addr.add_lit,bG];exact j5) (λh=>by cases h)
  have hE:∀w',(∀b,c.I b->w'.heap[b]?=w.heap[b]?)->iA c.I w' (es.app ys).l (cur.toList.take (es.l.length*i.size)++news++cur.toList.drop (es.l.length*i.size+news.length)).toArray 0 i.size:=λw' h=>by
   rw[ai.j9]
   refine Sx (A:=cur.toList.take (es.l.length*i.size)) (nJ (λb hb=>⟨hb,h b hb⟩) _ _ _ _ ?_) (by rw[aD,show cur.toList.length=cur.size from rfl];omega) (nJ (λb hb=>⟨hb,h b hb⟩) _ _ _ _ g4) g1
   have:cur.toList.take (es.l.length*i.size)=kQ:=by
    apply List.ext_getElem?
    intro j
    by_cases hj:j<kQ.length
    ·have:=o2 j _ (aI hj)
     rw[aF,if_pos (by omega),aI hj]
     simpa using this
    ·rw[aJ (by rw[aD];omega),aJ (by omega)]
   rw[this];exact o3
  obtain⟨k1,k2⟩:=vR hm (k:=R.length) (ao:=⟨false,e,i.size,es.app ys⟩) q1 hV hk (by rw[Ki];exact h3) Ki.symm h0 rfl hE
  refine⟨_,_,_,iy,⟨k2,k1,(Sy w _ _).mono λb _ hb=>⟨r,_,q1,hV,hb.symm⟩,λb hb=>.inl hb,λq ao p1 p2=>?_⟩,UD (ρ':=c.ρ) (V':=c.V) hR,?_⟩
  ·by_cases e1:q=R.length
   ·subst e1
    exact .inr (.inl ⟨r,_,by simp[cw],q1,hV,by simp[Ctx.add]⟩)
   ·have se:(c.kill [r]).R q=some ao:=by simpa[Ctx.add,e1]using p1
    obtain⟨_,jM,Nb,_⟩:=nn se
    exact .inl ⟨⟨jM,Nb⟩,by simpa[Ctx.add,e1,Ctx.kill]using p2,by simp[Ctx.add,e1,Ctx.kill]⟩
  ·refine⟨⟨false,e,i.size,es.app ys⟩,by simp[Ctx.add],rfl,.inr ⟨by simp[Ctx.add],cap,(cur.toList.take (es.l.length*i.size)++news++cur.toList.drop (es.l.length*i.size+news.length)).toArray,?_,by rw[ai.j9,lA];exact kO,h2,?_,?_⟩⟩
   ·simp only[Ctx.add,if_true,ai.j9,lA]
   ·simp only[Ctx.add,if_true];exact setRow_heap w _ _ _ _ _ h3
   ·simp only[aK,lA,aD,aG,Array.length_toList]
    rw[h4];omega
 ·have iy:=Qq6 (P:=P) w (ty:=ty) (n:=es.l.length) (cap:=cap) (a:=some ⟨c.ρ r,0,none⟩) (kQ:=kQ) (news:=news) ht pJ hx hi hz g2
   (by have:=g3 _ (aX _) w.drew rfl;rwa [fD (by omega)]at this)
   (run_firstCells_some (P:=P) w.drew i.size es.l.length _ _ cap kQ o1 λj v hj=>by
    rw[xu (w:=w.drew) h3];exact o2 j v hj) (by omega) (by omega) (growslice_fits (by omega) hlen)
  have gz:=grownCap_ge w (es.l.length+ys.l.length) cap e
  have Ar:grownCap w (es.l.length+ys.l.length) cap e<=maxLen:=grownCap_le_maxLen w _ _ e YX
  generalize grownCap w (es.l.length+ys.l.length) cap e=gc at iy gz Ar
  have pK:(kQ.toArray++news.toArray++Builtin.zeroCells z.cells (gc-(es.l.length+ys.l.length))).size=gc*i.size:=by
   have e1:(kQ.toArray++news.toArray++Builtin.zeroCells z.cells (gc-(es.l.length+ys.l.length))).size=es.l.length*i.size+ys.l.length*i.size+(gc-(es.l.length+ys.l.length))*i.size:=by
    simp[size_zeroCells,AU,g1,o1]
   rw[e1,<-bK,<-bK]
   congr 1;omega
  have hE:∀(I:ab) (w':World),(∀b,c.I b->I b/\w'.heap[b]?=w.heap[b]?)->iA I w' (es.app ys).l (kQ.toArray++news.toArray++Builtin.zeroCells z.cells (gc-(es.l.length+ys.l.length))) 0 i.size:=λI w' h=>by
   rw[ai.j9]
   have:=Sx (I:=I) (w:=w') (es:=es.l) (ys:=ys.l) (A:=kQ) (B:=news) (C:=(Builtin.zeroCells z.cells (gc-(es.l.length+ys.l.length))).toList) (sz:=i.size) (nJ h _ _ _ _ o3) o1 (nJ h _ _ _ _ g4) g1
   have h2:(kQ.toArray++news.toArray++Builtin.zeroCells z.cells (gc-(es.l.length+ys.l.length)))=(kQ++news++(Builtin.zeroCells z.cells (gc-(es.l.length+ys.l.length))).toList).toArray:=by apply fH;simp
   rw[h2];exact this
  have G6:=Mem.alloc (w:=w.drew) (HR tU) By ⟨false,e,i.size,es.app ys⟩ (kQ.toArray++news.toArray++Builtin.zeroCells z.cells (gc-(es.l.length+ys.l.length))) h0 (by
   simp only[aA,if_false]
   exact hE _ _ λb hb=>⟨hb,rfl⟩)
  have oG:=UE (c:=c.kill [r]) (w:=w.drew) (k:=R.length) (e:=e) (sz:=i.size) (cap:=gc) (es:=es.app ys) (arr:=kQ.toArray++news.toArray++Builtin.zeroCells z.cells (gc-(es.l.length+ys.l.length))) (by rw[ai.j9,lA];omega) Ar pK.symm
  refine⟨_,_,(c.kill [r]).add R.length ⟨false,e,i.size,es.app ys⟩ w.heap.size,iy,⟨G6,(Kl _ w).trans (jh.alloc (w:=w.drew) (HR tU) By _ _),?_,λb hb=>.inl hb,λq ao p1 p2=>?_⟩,UD (ρ':=c.ρ) (V':=c.V) hR,by rw[ai.j9,lA]at oG;exact oG⟩
  ·exact Fr.trans (w':=w.drew) ⟨rfl,rfl,rfl,aX _,λ_ _ _=>rfl⟩ (Fr.alloc _ w.drew _)
  ·by_cases e1:q=R.length
   ·subst e1
    right;right
    simp[Ctx.add]
   ·have se:(c.kill [r]).R q=some ao:=by simpa[Ctx.add,e1]using p1
    obtain⟨_,jM,Nb,_⟩:=nn se
    exact .inl ⟨⟨jM,Nb⟩,by simpa[Ctx.add,e1,Ctx.kill]using p2,by simp[Ctx.add,e1,Ctx.kill]⟩
theorem Zse(ht:P.underlying t=some (.slice e))(pJ:P.underlying tx=some ux)(hx:∀k,ux≠.int k)(hi:P.info? e=some i)(hz:i.zero=some z)(gd:i.size=sz)(uL:i.bytes=lH)(AU:z.cells.size=sz)
 (hm:Mem c w) (hb:c.base<=w.heap.size) (hR:∀r,c.R r=R.getD r none) (h0:0<sz) (sO:0<lH) (oF:lH*(es.l.length+ys.l.length)<=140737488355328) {r:Nat} (hr:R.getD r none=some ⟨false,e,sz,es⟩) {vx vy:Value} (YY:Rep c w (.all r) vx) (hs:Src P c w vy ys.l sz):
 ∃v' w' c',(Builtin.append_ #[t,tx] ty #[vx,vy]).run P w=.ok v' w'/\jP [r] c w c' w'/\(∀q,c'.R q=(r6 [r] R 0++[some (⟨false,e,sz,es.app ys⟩:Row)]).getD q none)/\Rep c' w' (.all R.length) v':=by
 obtain⟨row,q1,q2,hv⟩:=YY
 have dc:row=⟨false,e,sz,es⟩:=by rw[hR,hr]at q1;exact(Option.some.inj q1).symm
 subst dc
 rcases hv with⟨hV,a,hv,CG⟩|⟨hV,cap,cur,hv,h1,h2,h3,h4⟩
 ·have he:=(hm.nH q1 hV).2.1
  simp only at he
  subst hv
  have hl:(es.app ys).l=ys.l:=by rw[ai.j9,he];rfl
  exact append_empty (ks:=[r]) (ys:=es.app ys) ht pJ hx hi hz gd uL AU hm hb hR h0 sO (by rw[hl];rw[he]at oF;simpa using oF) CG (by rw[hl];exact hs)
 ·have hl:=hm.real q1 hV
  obtain⟨M6,jH,_,Bz⟩:=hl
  simp only at h1 h3 h4 hv jH
  subst hv
  rw[h3]at jH;cases jH
  simp only[aA,if_false]at Bz
  exact Zk7 ht pJ hx hi hz gd uL AU hm hb hR h0 sO oF q1 rfl hV h1 h2 h3 h4 Bz hs
theorem Zrl(ht:P.underlying t=some (.slice e))(pJ:P.underlying tx=some ux)(hx:∀k,ux≠.int k)(hi:P.info? e=some i)(hz:i.zero=some z)(gd:i.size=sz)(uL:i.bytes=lH)(AU:z.cells.size=sz)
 (hm:Mem c w) (hb:c.base<=w.heap.size) (hR:∀r,c.R r=R.getD r none) (h0:0<sz) (sO:0<lH) (oF:lH*((es.take n).l.length+ys.l.length)<=140737488355328) {r:Nat} (hr:R.getD r none=some ⟨false,e,sz,es⟩) {vx vy:Value} (YY:Rep c w (.own r 0 n) vx) (hs:Src P c w vy ys.l sz):
 ∃v' w' c',(Builtin.append_ #[t,tx] ty #[vx,vy]).run P w=.ok v' w'/\jP [r] c w c' w'/\(∀q,c'.R q=(r6 [r] R 0++[some (⟨false,e,sz,(es.take n).app ys⟩:Row)]).getD q none)/\Rep c' w' (.all R.length) v':=by
 obtain⟨row,q1,q2,hle,hv⟩:=YY
 have dc:row=⟨false,e,sz,es⟩:=by rw[hR,hr]at q1;exact(Option.some.inj q1).symm
 subst dc
 have hln:(es.take n).l.length=n:=by rw[ai.je,aD];simp only at hle;omega
 rcases hv with⟨h0',a,hv,CG⟩|⟨hV,cap,cur,h1,h2,h3,hv,h4⟩
 ·subst hv;subst h0'
  have Ee:(es.take 0).l=[]:=by rw[ai.je];rfl
  have hl:((es.take 0).app ys).l=ys.l:=by rw[ai.j9,Ee];rfl
  have g:jh c w {c with top:=w.heap.size} w:=⟨rfl,hm.top,λb hb=>⟨hb,rfl⟩,λr row hr=>⟨row,hr,rfl,rfl,rfl,rfl,rfl,Iff.rfl,λnv arr ha=>⟨arr,ha,rfl⟩⟩⟩
  have Ia:Mem {c with top:=w.heap.size} w:=⟨λr row hr=>tE g rfl Iff.rfl (λ_=>rfl) (hm.row r row hr),hm.inj,hm.fq,aX _,hm.j4⟩
  have Gt:CH w.heap.size a:=by
   rcases CG with h|⟨hV,h⟩
   ·exact h.mono hm.top
   ·exactλx hx=>by rw[h x hx];exact hm.lt q1 hV
  obtain⟨v',w',c',p1,p2,p3,p4⟩:=append_empty (c:={c with top:=w.heap.size}) (ks:=[r]) (ys:=(es.take 0).app ys) ht pJ hx hi hz gd uL AU Ia hb hR h0 sO (by rw[hl];rw[Ee]at oF;simpa using oF) Gt (by rw[hl];exact hs)
  refine⟨v',w',c',p1,⟨p2.mem,?_,p2.fr,p2.fq,p2.ov⟩,p3,p4⟩
  have g':jh (c.kill [r]) w (Ctx.kill {c with top:=w.heap.size} [r]) w:=⟨rfl,hm.top,λb hb=>⟨hb,rfl⟩,λr row hr=>⟨row,hr,rfl,rfl,rfl,rfl,rfl,Iff.rfl,λnv arr ha=>⟨arr,ha,rfl⟩⟩⟩
  exact g'.trans p2.db
 ·obtain⟨M6,jH,_,Bz⟩:=hm.real q1 hV
  simp only at h3 h4 hv jH
  rw[h3]at jH;cases jH
  simp only[aA,if_false]at Bz
  have hE1:iA c.I w (es.take n).l cur 0 sz:=by rw[ai.je];exact Mi Bz
  rw[hv,show((0:Nat)*sz)=0 from Nat.zero_mul _]
  have:=Zk7 (ty:=ty) (es:=es.take n) (cap:=cap) ht pJ hx hi hz gd uL AU hm hb hR h0 sO oF q1 rfl hV (by rw[hln];exact h1) h2 h3 (by rw[<-h4,bG]) hE1 hs
  rw[hln]at this
  exact this
end
theorem SK{E:ai}(h:Io E=true):E.l=[]:=by
 unfold Io at h
 split at h
 ·rfl
 ·cases h
theorem Zpb{T:iG}(hT:jm P T){x y:D}(h:Mj T M t tx x y R K):
    ∃ ks R',K ks (.all R.length) R'/\(∀k,cw k ks=true->M<=k)/\ ∀c w vx vy,Mem c w->c.base<=w.heap.size->(∀r,c.R r=R.getD r none)->Rep c w x vx->Rep c w y vy->
      ∃v' w' c',(Builtin.append_ #[t,tx] ty #[vx,vy]).run P w= .ok v' w'/\jP ks c w c' w'/\(∀r,c'.R r=R'.getD r none)/\Rep c' w' (.all R.length) v':=by
  unfold Mj at h
  split at h
  . rename_i e iQ _ _ _ _ _ ht
    have hk:=mJ hT ht
    simp only at hk
    split at h
    . rename_i ke sz lH cs z q kx _ _ _ _ _ he htx
      obtain⟨i,u,hi,hu,Aa,hs,hb,hc,hzero⟩:=G7 hT he
      have UF:=mJ hT htx
      split at h
      . rename_i sy ys jX
        simp only[dm,aE,Bool.or_eq_true]at h
        obtain⟨⟨⟨⟨h0,h1⟩,h2,h3⟩,h4,h5⟩,h⟩:=h
        have h0:0<sz:=lE h0
        have sO:0<lH:=lE h4
        have h2:=bE h2
        have h5:sy=sz\/ys.l=[]:=h5.imp bE SK
        have tQ:u.cells.size=sz:=by have:=Mk Aa;simp at this;omega
        obtain⟨ux,pJ,nN⟩: ∃ux,P.underlying tx=some ux/\ ∀k,ux≠ .int k:=by
          unfold CF at jX
          split at jX
          . simp only at UF;exact⟨_,UF.1,λk e=>by cases e⟩
          . simp only at UF;exact⟨_,UF,λk e=>by cases e⟩
          . cases jX
        have wM: ∀(c:Ctx) (w:World) (vy:Value),Mem c w->(∀r,c.R r=R.getD r none)->Rep c w y vy->Src P c w vy ys.l sz:=λc w vy hm hR hy=>v7 h0 jX h5 hm (λr row ao g1 g2=>by rw[hR,g2]at g1;exact(Option.some.inj g1).symm) hy
        cases x<;>simp only at h
        case de=>
          simp only[Z6,dm,decide_eq_true_eq,nA,<-ai.iE]at h
          refine⟨_,_,h.2,λk hk=>by simp [cw]at hk,λc w vx vy hm rU hR hx hy=> ?_⟩
          rw[show vx=_ from hx]
          have hl:((ai.gen []).app ys).l=ys.l:=by rw[ai.j9];rfl
          exact append_empty (ks:=[]) (ys:=(ai.gen []).app ys) hk.1 pJ nN hi hu hs hb tQ hm rU hR h0 sO (by rw[hl];have:=h.1;simpa [ai.l] using this) Nr (by rw[hl];exact wM c w vy hm hR hy)
        case emp=>
          simp only[Z6,dm,decide_eq_true_eq,nA,<-ai.iE]at h
          refine⟨_,_,h.2,λk hk=>by simp [cw]at hk,λc w vx vy hm rU hR hx hy=> ?_⟩
          obtain⟨a,hx,CG⟩:=hx
          rw[hx]
          have hl:((ai.gen []).app ys).l=ys.l:=by rw[ai.j9];rfl
          exact append_empty (ks:=[]) (ys:=(ai.gen []).app ys) hk.1 pJ nN hi hu hs hb tQ hm rU hR h0 sO (by rw[hl];have:=h.1;simpa [ai.l] using this) CG (by rw[hl];exact wM c w vy hm hR hy)
        case all r=>
          split at h
          . rename_i jZ s es hr
            simp only[aE,Z6,dm,decide_eq_true_eq,nA,<-ai.iE]at h
            obtain⟨⟨⟨g1,g2⟩,g3⟩,g5,g6⟩:=h
            have g1:=bE g1
            have g2:=bE g2
            subst g1;subst g2
            refine⟨_,_,g6,λk hk=> ?_,λc w vx vy hm rU hR hx hy=> ?_⟩
            . have:=oa.1 hk
              simp at this
              rw[this];exact lE g3
            . exact Zse hk.1 pJ nN hi hu hs hb tQ hm rU hR h0 sO g5 hr hx (wM c w vy hm hR hy)
          . exact h.elim
        case own r o n=>
          split at h
          . rename_i jZ s es hr
            simp only[aE,Z6,dm,decide_eq_true_eq,nA,<-ai.iE]at h
            obtain⟨⟨⟨g1,g2⟩,g3,g4⟩,g5,g6⟩:=h
            have g1:=bE g1
            have g2:=bE g2
            have g4:=bE g4
            subst g1;subst g2;subst g4
            refine⟨_,_,g6,λk hk=> ?_,λc w vx vy hm rU hR hx hy=> ?_⟩
            . have:=oa.1 hk
              simp at this
              rw[this];exact lE g3
            . exact Zrl hk.1 pJ nN hi hu hs hb tQ hm rU hR h0 sO g5 hr hx (wM c w vy hm hR hy)
          . exact h.elim
      . exact h.elim
    . exact h.elim
  . exact h.elim
theorem Z4v{c:Ctx}(ia:∀f cs,d≠.gx f cs)(h:dk c w d v):dk {c with base:=0} w d v:=by
 cases d with
 |sl sz es fr=>
  obtain⟨a,cap,hv,hc,il⟩:=h
  refine⟨a,cap,hv,hc,?_⟩
  rcases il with il|⟨b,off,arr,ty,fz,ha,hI,hf,hh,hE⟩
  ·exact .inl il
  ·exact .inr ⟨b,off,arr,ty,fz,ha,hI,λ_=>Nat.zero_le _,hh,hE⟩
 |gx f cs=>exact absurd rfl (ia f cs)
 |_=>exact h
theorem YZ{c:Ctx}(h:dk c w d v):dk {c with base:=0} w d v:=by
 by_cases e:∃g cs,d=.gx g cs
 ·obtain⟨g,cs,rfl⟩:=e
  obtain⟨us,hv,hu⟩:=h
  exact⟨us,hv,YT (c:=c) (w:=w) (c':={c with base:=0}) (w':=w) (S:=λ_=>True) (λd v q1 _ q2=>Z4v q1 q2) (λ_ hb=>⟨hb,rfl⟩) (λ_ _=>trivial) hu⟩
 ·exact Z4v (λf cs e'=>e ⟨f,cs,e'⟩) h
theorem Z8u{c:Ctx}{w:World}:∀{ds:List D} {vs:List Value},jr c w ds vs->jr {c with base:=0} w ds vs
 |[],[],_=>trivial
 |_::_,_::_,h=>⟨YZ h.1,Z8u h.2⟩
 |[],_::_,h=>h.elim
 |_::_,[],h=>h.elim
theorem Zbp{c:Ctx}(h:VRep c w d v):VRep {c with base:=0} w d v:=by
 cases d with
 |agg cs=>obtain⟨vs,hv,hr⟩:=h;exact⟨vs,hv,Z8u hr⟩
 |_=>exact VRep.Eu (YZ (VRep.toC (λcs e=>by cases e) h))
theorem Y0{c:Ctx}{w:World}:∀{ds:List D} {vs:List Value},ki c w ds vs->ki {c with base:=0} w ds vs
 |[],[],_=>trivial
 |_::_,_::_,h=>⟨Zbp h.1,Y0 h.2⟩
 |[],_::_,h=>h.elim
 |_::_,[],h=>h.elim
theorem Z1i{c:Ctx}{w:World}:∀{ds:List D} {arr:Array Value} {off:Nat},kN c w ds arr off->kN {c with base:=0} w ds arr off
 |[],_,_,_=>trivial
 |_::_,_,_,⟨⟨v,hv,h1⟩,h2⟩=>⟨⟨v,hv,YZ h1⟩,Z1i h2⟩
theorem Zks{c:Ctx}(h:Mem c w):Mem {c with base:=0} w:=by
 refine⟨λr row hr=>?_,h.inj,h.fq,h.top,h.j4⟩
 rcases h.row r row hr with h0|⟨h0,arr,ha,hs,hx⟩
 ·exact .inl h0
 ·refine .inr ⟨h0,arr,ha,hs,?_⟩
  split
  ·rename_i hb
   rw[if_pos hb]at hx
   obtain⟨e,k1,k2,k3,k4⟩:=hx
   exact⟨e,k1,k2,k3,Z1i k4⟩
  ·rename_i hb
   rw[if_neg hb]at hx
   exact hx
theorem Z1j{f:Nat->Nat}:∀{ids:List Nat} {rows:List Row} {R:Rows},ids.Nodup->ids.length<=rows.length->(∀r∈ids,r<R.length)->
 (Fm f ids rows R).length=R.length/\(∀(i r:Nat),ids[i]?=some r->∃row,rows[i]?=some row/\(Fm f ids rows R).getD r none=some (row.jl f false))/\∀r,r∉ids->(Fm f ids rows R).getD r none=R.getD r none
 |[],rows,R,_,_,_=>by
  have:Fm f [] rows R=R:=by cases rows<;>rfl
  rw[this]
  exact⟨rfl,λi r h=>by simp at h,λ_ _=>rfl⟩
 |r::ids,[],R,_,hl,_=>by simp at hl
 |r ::ids,row::rows,R,kU,hl,bg=>by
  obtain⟨Ik,Jt⟩:=List.nodup_cons.1 kU
  obtain⟨g1,g2,g3⟩:=Z1j (f:=f) (ids:=ids) (rows:=rows) (R:=R.set r (some (row.jl f false))) Jt (by simpa using hl) (λq hq=>by simpa using bg q (by simp[hq]))
  have hr:=bg r (by simp)
  have Y1:(R.set r (some (row.jl f false))).getD r none=some (row.jl f false):=by simp[aV,hr]
  have ia:∀q,q≠r->(R.set r (some (row.jl f false))).getD q none=R.getD q none:=λq hq=>by simp[aV,List.getElem?_set_ne (Ne.symm hq)]
  simp only[Fm]
  refine⟨by simpa using g1,λi q hq=>?_,λq hq=>?_⟩
  ·cases i with
   |zero=>
    simp at hq;subst hq
    exact⟨row,rfl,by rw[g3 _ Ik];exact Y1⟩
   |succ i=>simpa using g2 i q (by simpa using hq)
  ·have h1:q≠r:=λe=>hq (by simp[e])
   rw[g3 q (λe=>hq (by simp[e])),ia q h1]
def Ctx.eu(c:Ctx)(c':Ctx)(kl n0:Nat)(R2:Rows):Ctx:=
 { ρ:=λr=>if n0<=r/\r<R2.length then c'.ρ (kl+(r-n0)) else c.ρ r,
   R:=λr=>R2.getD r none,
   V:=λr=>if n0<=r/\r<R2.length then c'.V (kl+(r-n0)) else c.V r,
   I:=c'.I,base:=c.base,top:=c'.top,X:=c.X}
theorem Ml{i k n:Nat}:cw i (bO k n)=true↔k<=i/\i<k+n:=by
 rw[oa,List.mem_range'_1]
theorem Zc9{c c':Ctx}{ids:List Nat}{ei aj:List Row}(hm:Mem c w)(hR:∀r,c.R r=R.getD r none)
 (kU:ids.Nodup) (dj:Bo R (λr=>pos r ids 0) ids=some ei) (hle:(ids.take k).length<=aj.length)
 (hx:jP (bO k (ei.length-k)) {c.pass w ids ei false with base:=0} w c' w') (j8:∀i,c'.R i=aj[i]?)
 {R2:Rows} (uM:R2=Fm (bk (ids.take k) R.length) (ids.take k) aj (r6 (ids.drop k) R 0)++PU (bk (ids.take k) R.length) (aj.drop (ids.take k).length)):
 Ef (λ_=>True) (bk (ids.take k) R.length) false c' (c.eu c' (ids.take k).length R.length R2)/\
 jP (ids.drop k) c w (c.eu c' (ids.take k).length R.length R2) w':=by
 obtain⟨ju,AD⟩:=Fo dj
 generalize hf:bk (ids.take k) R.length=f at*
 generalize Y2:(ids.take k).length=kl at*
 have od:∀r row,R.getD r none=some row->c.R r=some row:=λr row e=>by rw[hR];exact e
 have bg:∀r∈ids,r<R.length:=λr hr=>by
  obtain⟨row,h1,_⟩:=AD _ r (Bp hr)
  by_cases hl:r<R.length
  ·exact hl
  ·rw[aV,aJ (by omega)]at h1;cases h1
 have htd:ids.take k++ids.drop k=ids:=List.take_append_drop k ids
 have Y3:(ids.take k).Nodup:=by rw[<-htd]at kU;exact(List.nodup_append.1 kU).1
 have PV:∀r,r∈ids.take k->r∈ids.drop k->False:=λr h1 h2=>by
  rw[<-htd]at kU
  exact(List.nodup_append.1 kU).2.2 r h1 r h2 rfl
 have Jaw:kl=min k ids.length:=by rw[<-Y2];simp
 have CI:∀i,i<kl->(ids.take k)[i]?=ids[i]? :=λi hi=>by rw[aF,if_pos (by omega)]
 have sP:∀i r,ids[i]?=some r->kl<=i->r∈ids.drop k:=λi r hi gz=>by
  have mV:=(List.getElem?_eq_some_iff.1 hi).1
  have:(ids.drop k)[i-k]?=some r:=by rw[fI,show k+(i-k)=i by omega];exact hi
  exact fL this
 obtain⟨k1,k2,k3⟩:=Z1j (f:=f) (ids:=ids.take k) (rows:=aj) (R:=r6 (ids.drop k) R 0) Y3 (by rw[Y2];exact hle) (λr hr=>by rw[Qa];exact bg r (fM hr))
 rw[Qa]at k1
 have wh:R2.length=R.length+(aj.length-kl):=by rw[uM];simp[k1,PU]
 have PW:∀r,r<R.length->R2.getD r none=(Fm f (ids.take k) aj (r6 (ids.drop k) R 0)).getD r none:=λr hr=>by
  rw[uM,aV,aV,bI (by omega)]
 have Y4:∀i,kl<=i->i<aj.length->R2.getD (R.length+(i-kl)) none=aj[i]?.map λrow=>row.jl f false:=λi h1 h2=>by
  have:∀(l:List Row) (j:Nat),(PU f l)[j]?=l[j]?.map λrow=>some (row.jl f false):=λl j=>by simp[PU]
  rw[uM,aV,bJ (by omega),this,k1,show R.length+(i-kl)-R.length=i-kl by omega,fI,show kl+(i-kl)=i by omega]
  rw[aI h2];rfl
 have jI:∀i r ao,i<kl->ids[i]?=some r->c'.R i=some ao->∃row,c.R r=some row/\ao.box=row.box/\ao.ty=row.ty/\ao.sz=row.sz/\ao.es.l.length=row.es.l.length/\c'.ρ i=c.ρ r/\(c'.V i↔c.V r)/\r<R.length/\R2.getD r none=some (ao.jl f false)/\f i=r/\
  (¬c.V r->∀arr,w.heap[c.ρ r]?=some (.cells arr row.ty (0,0))->∃iR,w'.heap[c.ρ r]?=some (.cells iR row.ty (0,0))/\iR.size=arr.size):=by
  intro i r ao oq hi jq
  obtain⟨row,h1,h2⟩:=AD i r hi
  have mu:=fL hi
  have h3:=od r row h1
  have CJ:(({c.pass w ids ei false with base:=0}:Ctx).kill (bO k (ei.length-k))).R i=some ((row.jl (λr=>pos r ids 0) false).kill (bO k (ei.length-k))):=by
   simp only[Ctx.kill,Ctx.pass]
   rw[if_neg (λe=>by have:=Ml.1 e;omega),h2];rfl
  obtain⟨sQ,g1,g2,g3,g4,g5,g6,gV,g7⟩:=hx.db.R i _ CJ
  rw[jq]at g1;cases g1
  obtain⟨s1,s2,s3,s4⟩:=Ju (λr=>pos r ids 0) false row
  obtain⟨t1,t2,t3,t4⟩:=wo (bO k (ei.length-k)) (row.jl (λr=>pos r ids 0) false)
  have iL:=(CI i oq).trans hi
  obtain⟨kR,q1,q2⟩:=k2 i r iL
  rw[j8,q1]at jq;cases jq
  refine⟨row,h3,g2.trans (t1.trans s1),g3.trans (t2.trans s2),g4.trans (t3.trans s3),g5.trans (t4.trans s4),by simpa[Ctx.kill,Ctx.pass,hi]using g6,by simpa[Ctx.kill,Ctx.pass,hi]using gV,bg r mu,by rw[PW r (bg r mu)];exact q2,by rw[<-hf];simp[bk,iL],λnv arr ha=>?_⟩
  have:=g7 (by simpa[Ctx.kill,Ctx.pass,hi]using nv) arr (by simpa[Ctx.kill,Ctx.pass,hi,s2,t2]using ha)
  simpa[Ctx.kill,Ctx.pass,hi,s2,t2]using this
 have N5:∀i ao,c'.R i=some ao->¬c'.V i->(∃j s row,ids[j]?=some s/\c.R s=some row/\¬c.V s/\c'.ρ i=c.ρ s/\(i<kl->j=i)/\(kl<=i->s∈ids.drop k))\/w.heap.size<=c'.ρ i:=by
  intro i ao h1 nv
  by_cases oq:i<kl
  ·have iL:ids[i]?=some ids[i]:=aI (by omega)
   obtain⟨row,g1,g2,g3,g4,g5,g6,g7,_⟩:=jI i _ ao oq iL h1
   exact .inl ⟨i,_,row,iL,g1,λe=>nv (g7.2 e),g6,λ_=>rfl,λh=>by omega⟩
  ·rcases hx.ov i ao h1 nv with⟨⟨x,pA⟩,v,e⟩|⟨s,x,hs,pA,v,e⟩|e
   ·have IP:ei[i]?=some x:=pA
    have G8:=(List.getElem?_eq_some_iff.1 IP).1
    have iL:ids[i]?=some ids[i]:=aI (by omega)
    obtain⟨row,g1,g2⟩:=AD i _ iL
    exact .inl ⟨i,_,row,iL,od _ _ g1,by simpa[Ctx.pass,iL]using v,by simpa[Ctx.pass,iL]using e,λh=>by omega,λ_=>sP i _ iL (by omega)⟩
   ·have IP:ei[s]?=some x:=pA
    have G8:=(List.getElem?_eq_some_iff.1 IP).1
    have iL:ids[s]?=some ids[s]:=aI (by omega)
    obtain⟨row,g1,g2⟩:=AD s _ iL
    have hsk:=(Ml.1 hs).1
    exact .inl ⟨s,_,row,iL,od _ _ g1,by simpa[Ctx.pass,iL]using v,by simpa[Ctx.pass,iL]using e,λh=>by omega,λ_=>sP s _ iL (by omega)⟩
   ·exact .inr e
 have new:∀i ao,kl<=i->c'.R i=some ao->i<aj.length/\R2.getD (R.length+(i-kl)) none=some (ao.jl f false)/\f i=R.length+(i-kl):=by
  intro i ao hi jq
  have h1:aj[i]?=some ao:=by rw[<-j8];exact jq
  have h2:=(List.getElem?_eq_some_iff.1 h1).1
  refine⟨h2,by rw[Y4 i hi h2,h1];rfl,?_⟩
  rw[<-hf]
  simp only[bk]
  rw[aJ (by omega),Y2]
 have CK:Ef (λ_=>True) f false c' (c.eu c' kl R.length R2):=by
  refine⟨λi ao _ jq=>?_,(λh=>by cases h),aX _⟩
  obtain⟨s1,s2,s3,s4⟩:=Ju f false ao
  by_cases hi:i<kl
  ·have iL:ids[i]?=some ids[i]:=aI (by omega)
   obtain⟨row,g1,g2,g3,g4,g5,g6,g7,g8,g9,g10,_⟩:=jI i _ ao hi iL jq
   rw[g10]
   exact⟨_,g9,s1,s2,s3,s4,by simp only[Ctx.eu];rw[if_neg (by omega),g6],by simp only[Ctx.eu];rw[if_neg (by omega)];exact g7.symm⟩
  ·obtain⟨h1,h2,h3⟩:=new i ao (by omega) jq
   rw[h3]
   have hc:R.length<=R.length+(i-kl)/\R.length+(i-kl)<R2.length:=by omega
   have he:kl+(R.length+(i-kl)-R.length)=i:=by omega
   exact⟨_,h2,s1,s2,s3,s4,by simp only[Ctx.eu];rw[if_pos hc,he],by simp only[Ctx.eu];rw[if_pos hc,he]⟩
 have BY:Fr (λb=>∃r x,c.R r=some x/\¬c.V r/\r∈ids/\c.ρ r=b) w w':=hx.fr.mono λb _ ⟨i,x,h1,h2,h3⟩=>by
  have se:ei[i]?=some x:=h1
  have hi:i<ids.length:=by have:=(List.getElem?_eq_some_iff.1 se).1;omega
  have iL:ids[i]?=some ids[i]:=aI hi
  obtain⟨row,g1,g2⟩:=AD i _ iL
  exact⟨_,row,od _ row g1,by simpa[Ctx.pass,iL]using h2,fL iL,by simpa[Ctx.pass,iL]using h3⟩
 have rest:∀r,r∉ids->r<R.length->R2.getD r none=(R.getD r none).map (Row.kill (ids.drop k)):=λr h1 h2=>by
  rw[PW r h2,k3 r (λe=>h1 (fM e)),PS,bG,if_neg (λe=>h1 (fN (oa.1 e)))]
 have gone:∀r,r∈ids.drop k->R2.getD r none=none:=λr h=>by
  rw[PW r (bg r (fN h)),k3 r (λe=>PV r e h),PS,bG,if_pos (oa.2 h)]
 have inv:∀r x,(c.eu c' kl R.length R2).R r=some x->(∃i ao,c'.R i=some ao/\x=ao.jl f false/\(c.eu c' kl R.length R2).ρ r=c'.ρ i/\((c.eu c' kl R.length R2).V r↔c'.V i)/\(i<kl/\ids[i]?=some r/\(c.eu c' kl R.length R2).ρ r=c.ρ r/\((c.eu c' kl R.length R2).V r↔c.V r)\/R.length<=r/\kl<=i/\r=R.length+(i-kl)))\/
  (∃row,c.R r=some row/\x=row.kill (ids.drop k)/\r∉ids/\(c.eu c' kl R.length R2).ρ r=c.ρ r/\((c.eu c' kl R.length R2).V r↔c.V r)):=by
  intro r x jO
  have jO:R2.getD r none=some x:=jO
  by_cases mu:r∈ids
  ·by_cases hg:r∈ids.drop k
   ·rw[gone r hg]at jO;cases jO
   ·left
    have hp:=Bp mu
    have Bq:pos r ids 0<kl:=by
     by_cases h:pos r ids 0<kl
     ·exact h
     ·exact(hg (sP _ r hp (by omega))).elim
    obtain⟨kR,q1,q2⟩:=k2 _ r ((CI _ Bq).trans hp)
    have sR:c'.R (pos r ids 0)=some kR:=by rw[j8];exact q1
    obtain⟨row,g1,g2,g3,g4,g5,g6,g7,g8,g9,g10,_⟩:=jI _ r kR Bq hp sR
    rw[g9]at jO
    cases jO
    have e1:(c.eu c' kl R.length R2).ρ r=c.ρ r:=by simp only[Ctx.eu];rw[if_neg (by omega)]
    have e2:(c.eu c' kl R.length R2).V r↔c.V r:=by simp only[Ctx.eu];rw[if_neg (by omega)]
    exact⟨_,kR,sR,rfl,by rw[e1,g6],by rw[e2,g7],.inl ⟨Bq,hp,e1,e2⟩⟩
  ·by_cases hc:R.length<=r
   ·left
    have UG:r<R2.length:=by
     by_cases h:r<R2.length
     ·exact h
     ·rw[aV,aJ (by omega)]at jO;cases jO
    have hi:kl+(r-R.length)<aj.length:=by omega
    have sR:c'.R (kl+(r-R.length))=some aj[kl+(r-R.length)]:=by rw[j8];exact aI hi
    obtain⟨h1,h2,h3⟩:=new _ _ (by omega) sR
    rw[show R.length+(kl+(r-R.length)-kl)=r by omega]at h2
    rw[h2]at jO
    cases jO
    exact⟨_,_,sR,rfl,by simp only[Ctx.eu];rw[if_pos ⟨hc,UG⟩],by simp only[Ctx.eu];rw[if_pos ⟨hc,UG⟩],.inr ⟨hc,by omega,by omega⟩⟩
   ·right
    rw[rest r mu (by omega)]at jO
    simp only[fF]at jO
    obtain⟨row,h1,h2⟩:=jO
    exact⟨row,od r row h1,h2.symm,mu,by simp only[Ctx.eu];rw[if_neg (by omega)],by simp only[Ctx.eu];rw[if_neg (by omega)]⟩
 have apart:∀r row i ao,c.R r=some row->r∉ids->¬c.V r->c'.R i=some ao->¬c'.V i->c'.ρ i≠c.ρ r:=λr row i ao h1 h2 h3 h4 h5 e=>by
  rcases N5 i ao h4 h5 with⟨j,s,jE,q1,q2,q3,q4,_⟩|q
  ·have:=hm.inj s r jE row q2 h1 q3 h3 (by rw[<-q4,e])
   subst this
   exact h2 (fL q1)
  ·have:=hm.lt h1 h3;omega
 have ri:jh (c.kill (ids.drop k)) w (c.eu c' kl R.length R2) w':=by
  refine⟨rfl,hx.db.top,λb iu=>?_,λr x hr=>?_⟩
  ·have h1:(({c.pass w ids ei false with base:=0}:Ctx).kill (bO k (ei.length-k))).I b:=.inl iu
   exact⟨(hx.db.I b h1).1,(hx.db.I b h1).2⟩
  ·obtain⟨UH,row,dc,rfl⟩:=nn hr
   have UH:r∉ids.drop k:=λe=>by rw[oa.2 e]at UH;cases UH
   obtain⟨u1,u2,u3,u4⟩:=wo (ids.drop k) row
   by_cases mu:r∈ids
   ·have hp:=Bp mu
    have Bq:pos r ids 0<kl:=by
     by_cases h:pos r ids 0<kl
     ·exact h
     ·exact(UH (sP _ r hp (by omega))).elim
    obtain⟨kR,q1,q2⟩:=k2 _ r ((CI _ Bq).trans hp)
    have sR:c'.R (pos r ids 0)=some kR:=by rw[j8];exact q1
    obtain⟨jM,g1,g2,g3,g4,g5,g6,g7,g8,g9,g10,g11⟩:=jI _ r kR Bq hp sR
    rw[dc]at g1;cases g1
    obtain⟨s1,s2,s3,s4⟩:=Ju f false kR
    refine⟨_,g9,s1.trans (g2.trans u1.symm),s2.trans (g3.trans u2.symm),s3.trans (g4.trans u3.symm),s4.trans (g5.trans u4.symm),by simp only[Ctx.eu];rw[if_neg (by omega)];rfl,by simp only[Ctx.eu];rw[if_neg (by omega)];rfl,λnv arr ha=>?_⟩
    rw[u2]at ha⊢
    exact g11 nv arr ha
   ·have rJ:r<R.length:=by
     by_cases h:r<R.length
     ·exact h
     ·rw[hR,aV,aJ (by omega)]at dc;cases dc
    refine⟨row.kill (ids.drop k),?_,rfl,rfl,rfl,rfl,by simp only[Ctx.eu];rw[if_neg (by omega)];rfl,by simp only[Ctx.eu];rw[if_neg (by omega)];rfl,λnv arr ha=>⟨arr,?_,rfl⟩⟩
    ·show R2.getD r none=_
     rw[rest r mu rJ,<-hR,dc];rfl
    ·have nv:¬c.V r:=nv
     show w'.heap[c.ρ r]?=_
     rw[BY.heap _ (hm.lt dc nv) fun⟨s,x,h1,h2,h3,h4⟩=>mu (by rw[<-hm.inj s r x row h1 dc h2 nv h4];exact h3)]
     exact ha
 refine⟨CK,⟨λr x jO=>?_,λr s x y hr hs v1 v2 he=>?_,λb iu=>⟨(hx.mem.fq b iu).1,λr x hr v=>?_⟩,hx.mem.top,hx.mem.j4⟩,ri,BY.mono λb _ ⟨r,x,h1,h2,_,h4⟩=>⟨r,x,h1,h2,h4⟩,λb iu=>?_,λr x hr v=>?_⟩
 ·rcases inv r x jO with⟨i,ao,h1,rfl,h3,h4,_⟩|⟨row,h1,rfl,h2,h3,h4⟩
  ·exact Y5 CK (flat:=False) (.inl λb hb=>hb) h3 h4 (λ_ _ _ _ _=>trivial) (λe=>e.elim) (hx.mem.row i ao h1)
  ·have hk:=Zp9 (ks:=ids.drop k) (hm.row r row h1)
   exact tE ri h3 h4 (λnv=>BY.heap _ (hm.lt h1 nv) fun⟨s,x',g1,g2,g3,g4⟩=>h2 (by rw[<-hm.inj s r x' row g1 h1 g2 nv g4];exact g3)) hk
 ·rcases inv r x hr with⟨i,x',h1,_,h3,h4,h5⟩|⟨row,h1,_,h2,h3,h4⟩<;>rcases inv s y hs with⟨j,y',g1,_,g3,g4,g5⟩|⟨jE,g1,_,g2,g3,g4⟩
  ·have:i=j:=hx.mem.inj i j x' y' h1 g1 (λe=>v1 (h4.2 e)) (λe=>v2 (g4.2 e)) (by rw[<-h3,<-g3];exact he)
   subst this
   rcases h5 with⟨q0,q1,_⟩|⟨_,q1,q2⟩<;>rcases g5 with⟨p0,p1,_⟩|⟨_,p1,p2⟩
   ·rw[q1]at p1;exact Option.some.inj p1
   ·omega
   ·omega
   ·omega
  ·exact(apart s jE i x' g1 g2 (λe=>v2 (g4.2 e)) h1 (λe=>v1 (h4.2 e)) (by rw[<-h3,<-g3];exact he)).elim
  ·exact(apart r row j y' h1 h2 (λe=>v1 (h4.2 e)) g1 (λe=>v2 (g4.2 e)) (by rw[<-h3,<-g3];exact he.symm)).elim
  ·exact hm.inj r s row jE h1 g1 (λe=>v1 (h4.2 e)) (λe=>v2 (g4.2 e)) (by rw[<-h3,<-g3];exact he)
 ·rcases inv r x hr with⟨i,x',h1,_,h3,h4,h5⟩|⟨row,h1,_,h2,h3,h4⟩
  ·rw[h3];exact(hx.mem.fq b iu).2 i x' h1 (λe=>v (h4.2 e))
  ·have nv:¬c.V r:=λe=>v (h4.2 e)
   rw[h3]
   rcases hx.fq b iu with q|⟨s,z,q1,q2,q3,q4⟩|q
   ·rcases q with q|⟨q,_⟩
    ·exact(hm.fq b q).2 r row h1 nv
    ·cases q
   ·intro e
    have hz:ei[s]?=some z:=q2
    have G8:=(List.getElem?_eq_some_iff.1 hz).1
    have iL:ids[s]?=some ids[s]:=aI (by omega)
    obtain⟨jE,g1,g2⟩:=AD s _ iL
    have:=hm.inj _ r jE row (od _ _ g1) h1 (by simpa[Ctx.pass,iL]using q3) nv (by rw[e];simpa[Ctx.pass,iL]using q4)
    exact h2 (by rw[<-this];exact fL iL)
   ·have:=hm.lt h1 nv;omega
 ·rcases hx.fq b iu with q|⟨s,z,q1,q2,q3,q4⟩|q
  ·rcases q with q|⟨q,_⟩
   ·exact .inl q
   ·cases q
  ·have hz:ei[s]?=some z:=q2
   have G8:=(List.getElem?_eq_some_iff.1 hz).1
   have iL:ids[s]?=some ids[s]:=aI (by omega)
   obtain⟨jE,g1,g2⟩:=AD s _ iL
   have hsk:=(Ml.1 q1).1
   exact .inr (.inl ⟨_,jE,oa.2 (sP s _ iL (by omega)),od _ _ g1,by simpa[Ctx.pass,iL]using q3,by simpa[Ctx.pass,iL]using q4⟩)
  ·exact .inr (.inr q)
 ·rcases inv r x hr with⟨i,x',h1,_,h3,h4,h5⟩|⟨row,h1,_,h2,h3,h4⟩
  ·rcases h5 with⟨q0,q1,q2,q3⟩|⟨q0,q1,q2⟩
   ·obtain⟨row,g1,_⟩:=jI i r x' q0 q1 h1
    exact .inl ⟨⟨row,g1⟩,λe=>v (q3.2 e),q2⟩
   ·rcases N5 i x' h1 (λe=>v (h4.2 e))with⟨j,s,jE,p1,p2,p3,p4,_,p5⟩|p
    ·exact .inr (.inl ⟨s,jE,oa.2 (p5 q1),p2,p3,by rw[h3];exact p4⟩)
    ·exact .inr (.inr (by rw[h3];exact p))
  ·exact .inl ⟨⟨row,h1⟩,λe=>v (h4.2 e),h3⟩
def G9(P:Program)(f:FuncId)(args:List Operand)(ev:Operand->D)(R:Rows)(ks:List Nat)(val:D)(R':Rows):Prop:=
 ∀ (c:Ctx) (w:World) (ρ:Operand->Value),Mem c w->c.base<=w.heap.size->(∀r,c.R r=R.getD r none)->(∀y∈args,Rep c w (ev y) (ρ y))->
  ∀K':Value->World->Prop,(∀v w' c',jP ks c w c' w'->(∀r,c'.R r=R'.getD r none)->Rep c' w' val v->K' v w')->Gc P c.I f (args.map ρ) w λe w'=>∃v,e=.returned v/\K' v w'
theorem Ww{P:Program}{G:List bc}{M:Nat}(hG:jF P G){f:FuncId}{k:Nat}{args:List Operand}{ev:Operand->D}{R:Rows}{K:List Nat->D->Rows->Prop}
 (lQ:pr G f=some k) (h:H2 G M f k (args.map ev) R K):∃ks val R' x,K ks val R'/\oV G f=some x/\(x.refs≠[])/\(∀j,cw j ks=true->M<=j)/\G9 P f args ev R ks val R':=by
 unfold H2 at h
 split at h
 ·rename_i x hx
  have wq:x.gone=some k:=by simpa[pr,hx]using lQ
  obtain⟨eh,hf⟩:=Gk hG hx
  split at h
  ·rename_i az ei has iZ
   simp only[dm,aE]at h
   obtain⟨⟨⟨⟨hv,mL⟩,h1,h2⟩,h3,h4⟩,h⟩:=h
   generalize Jv:mA R x.refs (args.map ev)=ids at*
   have uN:=Mm.1 h1
   have ju:=Mm.1 h2
   have kU:=Mn.1 h3
   have Ha:lM x.refs (args.map ev)=[]:=by
    revert hv
    cases lM x.refs (args.map ev)<;>simp
   have hrefs:x.refs≠[]:=λe=>by rw[e]at mL;simp at mL
   have main:∀res aj,Hb R (ids.take k) (ids.drop k) res aj K->tV P x.f k az ei res aj->
    ∃ks val R' y,K ks val R'/\oV G f=some y/\(y.refs≠[])/\(∀j,cw j ks=true->M<=j)/\G9 P f args ev R ks val R':=by
    intro res aj hK hA
    simp only[Hb,dm,D.dd,nA]at hK
    obtain⟨hle,hK⟩:=hK
    have hle:=lE hle
    refine⟨_,_,_,x,hK,hx,hrefs,λj hj=>lE (List.all_eq_true.1 h4 j (oa.1 hj)),λc w ρ hm hb hR fe K' ry=>?_⟩
    have od:∀r row,r∈ids->R.getD r none=some row->c.R r=some row:=λr row _ e=>by rw[hR];exact e
    have pq:mn c R:=λr row ao g1 g2=>by rw[hR,g2]at g1;exact(Option.some.inj g1).symm
    have hn:=UI (len:=false) (w:=w) od iZ
    have gh:=Mo (len:=false) (ρ:=ρ) hm pq hn has (λe=>(e Ha).elim) (λr hr=>by rw[Ha]at hr;cases hr) uN fe
    have mr:=hA _ w _ (Zks (Y6 (len:=false) hm od kU ju iZ)) rfl (λr=>rfl) (Y0 gh)
    rw[hf]at mr
    refine mr.mono (λb hb=>.inl hb) (λe w' sS=>?_)
    obtain⟨v,c',he,nN,j8,kP⟩:=sS
    have:=Zc9 (k:=k) hm hR kU iZ hle nN j8 rfl
    exact⟨v,he,ry v w' _ this.2 (λr=>rfl) (Y7 this.1 (flat:=False) (.inl λb hb=>hb) (λ_=>trivial) (λe=>e.elim) kP)⟩
   split at h
   ·rename_i α v res aj hm
    exact main _ _ (h v rfl) (eh.PX k wq _ _ _ _ _ _ hm)
   ·rename_i p α v res aj hm
    exact main _ _ (h.2 v rfl) (eh.Hc k wq _ _ _ _ _ _ _ hm h.1)
   ·exact h.elim
  ·exact h.elim
 ·exact h.elim
theorem Zqg(hG:jF P G)(hy:f<YB){guard:Option (Nat×Bool)}
 (lQ:pr G f=some k) (h:H2 G M f k (args.toList.map ev) R K):∃ks val R' x,K ks val R'/\oV G f=some x/\(x.refs≠[])/\(∀j,cw j ks=true->M<=j)/\BN P ⟨dst,.call ⟨.value (.func f),args,dv⟩,type,pos',after,guard⟩ ev R ks val R':=by
 obtain⟨ks,val,R',x,h1,h2,h3,h4,h5⟩:=Ww hG lQ h
 obtain⟨eh,hf⟩:=Gk hG h2
 refine⟨ks,val,R',x,h1,h2,h3,h4,λc w a hm hb hR fe K' Q ry=>?_⟩
 subst hf
 exact Y8 eh rfl hy ((h5 c w a.eval hm hb hR (λy hy=>fe y (by simp[Op.operands,Call.operands];exact .inr (by simpa using hy))) (λv w'=>K' (a.put dst v) w') λv w' c'=>ry v w' c').1 hy)
def Ctx.only(c:Ctx)(ks:List Nat):Ctx:={c with R:=λr=>if cw r ks=true then(match c.R r with|some row=>if row.box=true then none else some row|none=>none)else none}
theorem Mp{c:Ctx}(h:(c.only ks).R r=some x):r∈ks/\c.R r=some x/\x.box=false:=by
 simp only[Ctx.only]at h
 split at h
 ·rename_i hm
  split at h
  ·rename_i row hr
   split at h
   ·cases h
   ·rename_i hb
    cases h
    exact⟨oa.1 hm,hr,by simpa using hb⟩
  ·cases h
 ·cases h
theorem zu{c:Ctx}(hm:r∈ks)(hr:c.R r=some x)(hb:x.box=false):(c.only ks).R r=some x:=by
 simp[Ctx.only,oa.2 hm,hr,hb]
theorem qS{c:Ctx}(hm:Mem c w)(ks:List Nat):Mem (c.only ks) w:=by
 refine⟨λr x hr=>?_,λr s x y hr hs=>?_,λb hb=>⟨(hm.fq b hb).1,λr x hr v=>?_⟩,hm.top,hm.j4⟩
 ·obtain⟨_,h1,h2⟩:=Mp hr
  rcases hm.row r x h1 with h|⟨h0,arr,ha,hs,hx⟩
  ·exact .inl h
  ·refine .inr ⟨h0,arr,ha,hs,?_⟩
   rw[if_neg (by rw[h2];simp)]at hx⊢
   exact hx
 ·exact hm.inj r s x y (Mp hr).2.1 (Mp hs).2.1
 ·exact(hm.fq b hb).2 r x (Mp hr).2.1 v
theorem Zlm{c:Ctx}(h:Fp R d=some d')(hl:∀r∈nV d,r∈ks)(hr:dk c w d v):dk (c.only ks) w d v:=by
 cases d<;>simp only[Fp]at h<;>try(cases h;done)
 case all r=>
  obtain⟨row,g1,g2,g3⟩:=hr
  exact⟨row,zu (hl r (by simp[nV])) g1 g2,g2,g3⟩
 case own r o n=>
  obtain⟨row,g1,g2,g3,g4⟩:=hr
  exact⟨row,zu (hl r (by simp[nV])) g1 g2,g2,g3,g4⟩
 all_goals exact hr
theorem Zkn{c:Ctx}{w:World}{R:Rows}{ks:List Nat}:∀{ds ow:List D} {vs:List Value},Jw R ds=some ow->(∀r∈Qd ds,r∈ks)->jr c w ds vs->jr (c.only ks) w ds vs
 |[],_,[],_,_,_=>trivial
 |d ::ds,ow,v::vs,h,hl,hr=>by
  simp only[Jw]at h
  split at h
  ·rename_i x xs h1 h2
   exact⟨Zlm h1 (λr e=>hl r (by simp[Qd,e])) hr.1,Zkn h2 (λr e=>hl r (by simp[Qd,e])) hr.2⟩
  ·cases h
 |[],_,_::_,_,_,h=>h.elim
 |_::_,_,[],_,_,h=>h.elim
theorem xS{c:Ctx}(h:conv R d=some d')(hl:∀r∈Fq d,r∈ks)(hr:Rep c w d v):Rep (c.only ks) w d v:=by
 cases d with
 |agg cs=>
  simp only[conv,fF]at h
  obtain⟨xs,h1,_⟩:=h
  obtain⟨vs,hv,hx⟩:=hr
  exact⟨vs,hv,Zkn h1 hl hx⟩
 |ee ds=>simp[conv,Fp]at h
 |dead=>trivial
 |_=>
  simp only[conv]at h
  simp only[Rep,VRep]at hr⊢
  exact Zlm h hl hr
theorem Zc1{R:Rows}{f:Nat->Nat}{ev:Operand->D}:∀{xs:List Operand} {az:List D},sT R f [] (xs.map ev)=some az->∀x∈xs,∃y,conv R (ev x)=some y
 |[],_,_,x,hx=>by simp at hx
 |y ::xs,az,h,x,hx=>by
  simp only[fG,sT]at h
  split at h
  ·rename_i z zs h1 h2
   simp only[cQ]at hx
   rcases hx with rfl|hx
   ·exact⟨_,h1⟩
   ·exact Zc1 h2 x hx
  ·cases h
theorem Zd5{ev:Operand->D}{r:Nat}:∀{xs:List Operand} {x:Operand},x∈xs->r∈Fq (ev x)->r∈lM [] (xs.map ev)
 |y::xs,x,hx,hr=>by
  simp only[fG,lM,cB]
  simp only[cQ]at hx
  rcases hx with rfl|hx
  ·exact .inl hr
  ·exact .inr (Zd5 hx hr)
theorem Y9{r:Nat}:∀{l ids:List Nat},r∈lz ids l->r∈ids\/r∈l
 |[],ids,h=>.inl h
 |x ::l,ids,h=>by
  simp only[lz]at h
  split at h
  ·rcases Y9 h with h|h
   ·exact .inl h
   ·exact .inr (by simp[h])
  ·rcases Y9 h with h|h
   ·simp only[cB,List.mem_singleton]at h
    rcases h with h|h
    ·exact .inl h
    ·exact .inr (by simp[h])
   ·exact .inr (by simp[h])
theorem yu{c:Ctx}(h:Rep c w d v):Rep {c with base:=0} w d v:=by
 cases d with
 |ee ds=>obtain⟨vs,hv,hx⟩:=h;exact⟨vs,hv,Y0 hx⟩
 |dead=>trivial
 |_=>exact Rep.Kv (Zbp (Rep.toV (λds e=>by cases e) (λe=>by cases e) h))
theorem zS(hG:jF P G){guard:Option (Nat×Bool)}
 (lQ:pr G f=none) (h:CL G M f (args.toList.map ev) R K):∃ks val R' x,K ks val R'/\oV G f=some x/\(∀j,cw j ks=true->M<=j)/\BN P ⟨dst,.call ⟨.value (.func f),args,dv⟩,type,pos',after,guard⟩ ev R ks val R':=by
 unfold CL at h
 split at h
 ·rename_i x hx
  have wq:x.gone=none:=by simpa[pr,hx]using lQ
  obtain⟨eh,hf⟩:=Gk hG hx
  split at h
  ·rename_i az ei has iZ
   simp only[dm,aE]at h
   obtain⟨⟨⟨mL,wN⟩,h3,uN,h4⟩,h⟩:=h
   have Jax:∀r,r∈lz [] (lM [] (args.toList.map ev))->r∈lM [] (args.toList.map ev):=λr hr=>by
    rcases Y9 hr with h|h
    ·cases h
    ·exact h
   generalize Jv:lz [] (lM [] (args.toList.map ev))=ids at*
   have kU:=Mn.1 h3
   have uN:=Mm.1 uN
   have main :∀res aj,Hb R [] ids res aj K->kG P x.f az [] res aj->
    ∃ks val R' y,K ks val R'/\oV G f=some y/\(∀j,cw j ks=true->M<=j)/\BN P ⟨dst,.call ⟨.value (.func f),args,dv⟩,type,pos',after,guard⟩ ev R ks val R':=by
    intro res aj hK hA
    simp only[Hb,dm,D.dd,nA]at hK
    obtain⟨_,hK⟩:=hK
    refine⟨_,_,_,x,hK,hx,λj hj=>lE (List.all_eq_true.1 h4 j (oa.1 hj)),λc w a hm hb hR fe K' Q ry=>?_⟩
    have pq:mn (c.only ids) R:=λr row ao g1 g2=>by
     have:=(Mp g1).2.1
     rw[hR,g2]at this;exact(Option.some.inj this).symm
    have hmo:=qS hm ids
    have hn:=UI (c:=c.only ids) (R:=R) (ids:=[]) (ei:=[]) (len:=true) (w:=w) (λr row e=>by cases e) rfl
    have Zu:∀y∈args.toList,Rep (c.only ids) w (ev y) (a.eval y):=λy hy=>by
     obtain⟨z,hz⟩:=Zc1 has y hy
     exact xS hz (λr hr=>uN r (Zd5 hy hr)) (fe y (by simp[Op.operands,Call.operands];exact .inr (by simpa using hy)))
    rw[Zv (λr=>r) (λr=>pos r [] 0)]at has
    have gh:=Mo (len:=true) (ρ:=a.eval) hmo pq hn has (λ_=>rfl) (λr _ e=>by cases e) (λr e=>by rw[Zw]at e;cases e) Zu
    have mr:=hA _ w _ (Y6 (R:=R) (len:=true) hmo (λr row e=>by cases e) (by simp) (λr e=>by simp[CM]at e) rfl) rfl (λr=>rfl) gh
    refine Y8 eh hf (eh.real wq) (mr.mono λe w' sS=>?_)
    obtain⟨v,c',he,nN,j8,kP⟩:=sS
    have GA:∀r x,((c.only ids).pass w [] [] true).R r=some x->False:=λr x h=>by simp[Ctx.pass]at h
    obtain⟨ju,AD⟩:=Fo iZ
    have hxK:jP (bO 0 (ei.length-0)) {c.pass w ids ei false with base:=0} w {c' with base:=0} w':=by
     refine⟨Zks nN.mem,⟨rfl,nN.db.top,λb iu=>?_,λr x hr=>?_⟩,nN.fr.mono λb _ ⟨r,x,h1,_⟩=>(GA r x h1).elim,λb iu=>?_,λr x hr hv=>?_⟩
     ·have:c.I b:=by
       rcases iu with h|⟨h,_⟩
       ·exact h
       ·cases h
      exact⟨(nN.db.I b (.inl this)).1,(nN.db.I b (.inl this)).2⟩
     ·obtain⟨h1,row,h2,_⟩:=nn hr
      have h2':ei[r]?=some row:=h2
      have:=(List.getElem?_eq_some_iff.1 h2').1
      rw[Ml.2 (by omega)]at h1;cases h1
     ·rcases nN.fq b iu with h|h
      ·rcases h with h|⟨_,r,row,g1,g2,g3,_,g5⟩
       ·exact .inl (.inl h)
       ·obtain⟨k1,k2,k3⟩:=Mp g1
        have hp:=Bp k1
        obtain⟨jE,q1,q2⟩:=AD _ r hp
        have hl:=(List.getElem?_eq_some_iff.1 q2).1
        exact .inr (.inl ⟨_,_,Ml.2 (by omega),q2,by simpa[Ctx.pass,Ctx.only,hp]using g2,by simpa[Ctx.pass,Ctx.only,hp]using g5⟩)
      ·exact .inr (.inr h)
     ·rcases nN.ov r x hr hv with⟨⟨y,h1⟩,_⟩|h
      ·exact(GA r y h1).elim
      ·exact .inr (.inr h)
    have:=Zc9 (k:=0) (c':={c' with base:=0}) hm hR kU iZ (by simp) hxK j8 rfl
    simp only[List.take_zero,List.drop_zero]at this
    exact⟨v,he,ry v w' _ this.2 (λr=>rfl) (Y7 this.1 (flat:=False) (.inl λb hb=>hb) (λ_=>trivial) (λe=>e.elim) (yu kP))⟩
   split at h
   ·rename_i α v res aj hm
    exact main _ _ (h v rfl) (eh.abs wq _ _ _ _ _ _ hm).1
   ·rename_i p α v res aj hm
    exact main _ _ (h.2 v rfl) (eh.lB wq _ _ _ _ _ _ _ hm h.1).1
   ·exact h.elim
  ·exact h.elim
 ·exact h.elim
