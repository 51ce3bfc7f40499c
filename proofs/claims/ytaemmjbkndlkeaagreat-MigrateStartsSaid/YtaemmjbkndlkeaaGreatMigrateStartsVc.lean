import Derived.Test.YtaemmjbkndlkeaaGreatMigrateStartsFy
open Nat renaming beq->bX,blt->bN,ble->gH
open BitVec renaming ofInt->dR
open List renaming replicate->cO,range->cW
set_option linter.all false
namespace Go.GD
open Go
variable {b:Bool}{p:Prop}
def cv(b:Bool)(p:Prop):Prop:=match b with|true=>p|false=>False
def Ae(b:Bool)(p q:Prop):Prop:=match b with|true=>p|false=>q
theorem dd:cv b p↔b=true/\p:=by cases b<;>simp[cv]
theorem Z8y{p q:Prop}:Ae b p q↔(b=true->p)/\(b=false->q):=by cases b<;>simp[Ae]
abbrev Rows:=List (Option Row)
namespace D
def Fs(n:Nat):D->Bool|.sl m _ _=>bX m n|.c8=>true|.emp=>true|_=>false
def toEs:D->ai|.sl _ es _=>es|_=>.gen []
def u0:D->Bool|.agg _=>false|.dw _=>false|.dead=>false|_=>true
def isVal:D->Bool|.dw _=>false|.dead=>false|_=>true
def Hz:D->Bool|.agg _=>false|.dw _=>false|_=>true
def plain:D->Bool|.bool _=>true|.int _ _=>true|.str _=>true|.iz=>true|.c8=>true|.emp=>true|.sl _ _ _=>true|_=>false
def cells:D->List D|.agg cs=>cs|d=>[d]
def force:D->(D->Prop)->Prop
 |.bool b,K=>K (.bool b)
 |.int k n,K=>K (.int k n)
 |.str s,K=>K (.str s)
 |.sl a b c,K=>K (.sl a b c)
 |.all a,K=>K (.all a)
 |.own a b c,K=>K (.own a b c)
 |.ptr a b c,K=>K (.ptr a b c)
 |.pa a b c d e f,K=>K (.pa a b c d e f)
 |.iu a b c d,K=>K (.iu a b c d)
 |.iz,K=>K .iz
 |.c8,K=>K .c8
 |.emp,K=>K .emp
 |.mP es,K=>K (.mP es)
 |.dead,K=>K .dead
 |.gm a b,K=>K (.gm a b)
 |.gq a,K=>K (.gq a)
 |.jJ,K=>K .jJ
 |.agg a,K=>K (.agg a)
 |.dw a,K=>K (.dw a)
end D
def D.j5:List D->(List D->Prop)->Prop
 |[],K=>K []
 |d::l,K=>d.force λd=>j5 l λl=>K (d::l)
def tP:Rows->(Rows->Prop)->Prop
 |[],K=>K []
 |d::l,K=>tP l λl=>K (d::l)
inductive sk where
 |int (k:IntKind)|bool|str|sl (n:Nat)|other
inductive TK where
 |int (k:IntKind)|bool|string
 |slice (e:TypeId) (n:Nat)
 |struct (fs:List (Nat×TypeId×Nat))
 |array (len:Nat) (e:TypeId) (n:Nat)
 |other
structure TI where
 kind:TK
 size:Nat
 bytes:Nat
 sP:List sk
 zero:Option (List D)
 eq:Bool
abbrev iy:=List (TypeId×TI)
def iy.get:iy->TypeId->Option TI
 |[],_=>none
 |(u,i)::l,t=>match bX u t with|true=>some i|false=>iy.get l t
def TK.isAgg:TK->Bool|.struct _=>true|.array _ _ _=>true|_=>false
def uL(pl:Bool):sk->D->(D->Prop)->Prop
 |.int k,c,K=>cv (c.isInt k) (K (.int k c.toInt))
 |.bool,c,K=>cv c.isBool (K (.bool c.toBool))
 |.str,c,K=>cv c.isStr (K (.str c.toStr))
 |.sl n,c,K=>match pl with
  |true=>cv (c.Fs n) (K (.sl n c.toEs false))
  |false=>cv c.u0 (c.force K)
 |.other,c,K=>match pl with
  |true=>match c with|.iz=>K .iz|_=>False
  |false=>cv c.u0 (c.force K)
def Ee(pl:Bool)(e:List D):List sk->Nat->(List D->Prop)->Prop
 |[],_,K=>K []
 |t::ts,off,K=>uL pl t (e.getD off .dead) λd=>Ee pl e ts (off+1) λds=>K (d::ds)
def uM(pl:Bool)(t:TI)(e:List D)(off:Nat)(K:D->Prop):Prop:=
 match t.kind.isAgg with
 |true=>Ee pl e t.sP off λds=>K (.agg ds)
 |false=>match t.sP with
  |[y]=>uL pl y (e.getD off .dead) K
  |_=>False
def kW:List D->Nat->List D->List D
 |e,_,[]=>e
 |e,off,v::vs=>kW (e.set off v) (off+1) vs
def Re:Value->Option D
 |.bool b=>some (.bool b)
 |.int k n=>some (.int k n)
 |.string s=>some (.str s.data.toList)
 |.slice none 0 0=>some .c8
 |.pointer none=>some .iz
 |.nilIface=>some .jJ
 |.nilFunc=>some .dead
 |_=>none
def Bn:List Value->Option (List D)
 |[]=>some []
 |v::vs=>match Re v,Bn vs with|some d,some ds=>some (d::ds)|_,_=>none
def Gd:Value->Option D
 |.agg cs=>(Bn cs.toList).map .agg
 |v=>Re v
structure St where
 env:List (Nat×D)
 rows:Rows
def look:List (Nat×D)->Nat->D
 |[],_=>.dead
 |(u,d)::l,t=>match bX u t with|true=>d|false=>look l t
def cu(env:List (Nat×D)):Operand->D
 |.tmp t=>look env t
 |.const v=>(Gd v).getD .dead
 |.func f=>match bN f YB with|true=>.gm f []|false=>.dead
 |_=>.dead
def bh(k:IntKind)(x y:Int):Int:=k.wrap (dR k.bits x&&&dR k.bits y).toNat
def iN(k:IntKind)(x y:Int):Int:=k.wrap (dR k.bits x|||dR k.bits y).toNat
def rD(k:IntKind)(x y:Int):Int:=k.wrap (dR k.bits x^^^dR k.bits y).toNat
def oM(k:IntKind)(x y:Int):Int:=k.wrap (dR k.bits x&&&~~~dR k.bits y).toNat
def ep(k:IntKind)(x y:Int):Int:=k.wrap (x*2^(min y.toNat k.bits))
def bm(k:IntKind)(x y:Int):Int:=x.fdiv (2^(min y.toNat k.bits))
def Vj(op:BinOp)(k:IntKind)(x y:Int)(K:D->Prop):Prop:=
 match op with
 |.add=>K (.int k (k.wrap (x+y)))
 |.sub=>K (.int k (k.wrap (x-y)))
 |.mul=>K (.int k (k.wrap (x*y)))
 |.quo=>cv (decide (y≠0)) (K (.int k (k.wrap (x.tdiv y))))
 |.rem=>cv (decide (y≠0)) (K (.int k (x.tmod y)))
 |.and=>K (.int k (bh k x y))
 |.or=>K (.int k (iN k x y))
 |.xor=>K (.int k (rD k x y))
 |.andNot=>K (.int k (oM k x y))
 |.eql=>K (.bool (x==y))
 |.neq=>K (.bool (x !=y))
 |.lss=>K (.bool (decide (x<y)))
 |.leq=>K (.bool (decide (x<=y)))
 |.gtr=>K (.bool (decide (x>y)))
 |.geq=>K (.bool (decide (x>=y)))
 |_=>False
def PR:D->D->Bool
 |.int _ a,.int _ b=>a==b
 |.bool a,.bool b=>a==b
 |.str a,.str b=>decide (a=b)
 |_,_=>false
def eqs:List D->List D->Bool
 |[],_=>true
 |a::l,b::m=>PR a b&&eqs l m
 |_::_,[]=>false
def fits:List sk->List D->Bool
 |[],[]=>true
 |.int k::t,d::l=>d.isInt k&&fits t l
 |.bool::t,d::l=>d.isBool&&fits t l
 |.str::t,d::l=>d.isStr&&fits t l
 |_,_=>false
def sQ(T:iy)(op:BinOp)(t:TypeId)(x y:D)(K:D->Prop):Prop:=
 match x,y with
 |.int k a,.int k' b=>
  match op with
  |.shl=>cv (decide (0<=b)) (K (.int k (ep k a b)))
  |.shr=>cv (decide (0<=b)) (K (.int k (bm k a b)))
  |op=>cv (decide (k=k')) (Vj op k a b K)
 |.str a,.str b=>
  match op with
  |.add=>cv (decide (a.length+b.length<=maxLen)) (K (.str (a++b)))
  |.eql=>K (.bool (decide (a=b)))
  |.neq=>K (.bool (!decide (a=b)))
  |_=>False
 |.bool a,.bool b=>
  match T.get t with
  |some ⟨.bool,_,_,_,_,_⟩=>match op with
   |.eql=>K (.bool (a==b))
   |.neq=>K (.bool (!(a==b)))
   |_=>False
  |_=>False
 |.agg a,.agg b=>
  match T.get t with
  |some ti=>cv (ti.kind.isAgg&&bN 0 ti.size&&ti.eq&&fits ti.sP a&&fits ti.sP b)<|
   match op with
   |.eql=>K (.bool (eqs a b))
   |.neq=>K (.bool (!(eqs a b)))
   |_=>False
  |none=>False
 |_,_=>False
def MH(T:iy)(s d:TypeId)(x:D)(K:D->Prop):Prop:=
 match T.get s,T.get d with
 |some ⟨.int _,_,_,_,_,_⟩,some ⟨.int k,_,_,_,_,_⟩=>match x with
  |.int _ n=>K (.int k (k.wrap n))
  |_=>False
 |some ⟨.string,_,_,_,_,_⟩,some ⟨.string,_,_,_,_,_⟩=>match x with
  |.str s=>K (.str s)
  |_=>False
 |_,_=>False
def Rc(T:iy)(s:TypeId)(f:Nat):Option (Nat×TypeId×Nat):=
 match T.get s with
 |some ⟨.struct fs,_,_,_,_,_⟩=>fs[f]?
 |_=>none
def Fy(place:Nat->Option (Nat×Nat))(ev:Operand->D):List (Nat×Operand)->List D->(List D->Prop)->Prop
 |[],cs,K=>D.j5 cs K
 |(i,x)::ps,cs,K=>match place i with
  |some (off,n)=>cv ((ev x).isVal&&bX (ev x).cells.length n&&gH (off+n) cs.length) (Fy place ev ps (kW cs off (ev x).cells) K)
  |none=>False
def D.Rk:D->D|.sl a b _=>.sl a b false|d=>d
def Hw:List D->List D
 |[]=>[]
 |d::l=>d.Rk::Hw l
def FA(n len:Nat)(ev:Operand->D):List (Nat×Operand)->List (List D)->(List (List D)->Prop)->Prop
 |[],es,K=>K es
 |(i,x)::ps,es,K=>cv (((ev x).isVal&&(Hw (ev x).cells).all D.plain)&&bX (Hw (ev x).cells).length n&&bN i len) (FA n len ev ps (es.set i (Hw (ev x).cells)) K)
def wK(row:Row):Rows->Nat->(Nat->Rows->Prop)->Prop
 |[],n,K=>K n [some row]
 |x::l,n,K=>wK row l (n+1) λk l=>K k (x::l)
def uK(R:Rows)(row:Row)(K:Nat->Rows->Prop):Prop:=wK row R 0 K
def ints(e:List D)(off:Nat):Nat->List Int
 |0=>[]
 |n+1=>(e.getD off .dead).toInt::ints e (off+1) n
def ag(e:List D)(off:Nat):Nat->List Bool
 |0=>[]
 |n+1=>(e.getD off .dead).toBool::ag e (off+1) n
def CN(k:IntKind)(e:List D)(off:Nat):Nat->Bool
 |0=>true
 |n+1=>(e.getD off .dead).isInt k&&CN k e (off+1) n
def Hm(e:List D)(off:Nat):Nat->Bool
 |0=>true
 |n+1=>(e.getD off .dead).isBool&&Hm e (off+1) n
def Ht(k:IntKind)(l:List Int)(j:Nat):Nat->List D
 |0=>[]
 |n+1=>.int k (l.getD j 0)::Ht k l (j+1) n
def Hu(l:List Bool)(j:Nat):Nat->List D
 |0=>[]
 |n+1=>.bool (l.getD j false)::Hu l (j+1) n
def wN(T:iy)(t:TypeId)(x:D)(R:Rows)(K:D->Rows->Prop):Prop:=
 match T.get t with
 |none=>False
 |some ti=>match x with
  |.ptr r i off=>match R.getD r none with
   |some ⟨box,_,sz,es⟩=>cv (gH (off+ti.size) sz) (uM (!box) ti (es.get i) off λd=>K d R)
   |none=>False
  |.pa r i off len k n=>match R.getD r none with
   |some ⟨_,_,sz,es⟩=>cv (gH (off+len) sz)<|match ti.kind,k with
    |.int j,some k=>cv (decide (j=k)&&CN k (es.get i) off len) (K (.int k ((ints (es.get i) off len).getD n 0)) R)
    |.bool,none=>cv (Hm (es.get i) off len) (K (.bool ((ag (es.get i) off len).getD n false)) R)
    |_,_=>False
   |none=>False
  |.iu sz es i off=>cv (gH (off+ti.size) sz) (uM true ti (es.get i) off λd=>K d R)
  |_=>False
def Hv(T:iy)(t:TypeId)(x d:D)(R:Rows)(K:D->Rows->Prop):Prop:=
 match T.get t with
 |none=>False
 |some ti=>match x with
  |.ptr r i off=>match R.getD r none with
   |some ⟨box,ty,sz,es⟩=>cv (bN 0 ti.size&&d.isVal&&bX d.cells.length ti.size&&gH (off+ti.size) sz)<|match box with
    |true=>D.j5 (kW (es.get i) off d.cells) λe=>tP (R.set r (some ⟨true,ty,sz,.gen [e]⟩)) λR=>K .dead R
    |false=>cv (d.cells.all D.plain) (tP (R.set r (some ⟨false,ty,sz,es.set i (kW (es.get i) off d.cells)⟩)) λR=>K .dead R)
   |none=>False
  |.pa r i off len k n=>match R.getD r none with
   |some ⟨box,ty,sz,es⟩=>cv (box&&gH (off+len) sz)<|match ti.kind,k,d with
    |.int j,some k,.int k' v=>cv (decide (j=k)&&decide (k'=k)&&CN k (es.get i) off len)<|
     D.j5 (kW (es.get i) off (Ht k ((ints (es.get i) off len).set n v) 0 len)) λe=>tP (R.set r (some ⟨true,ty,sz,.gen [e]⟩)) λR=>K .dead R
    |.bool,none,.bool v=>cv (Hm (es.get i) off len)<|
     D.j5 (kW (es.get i) off (Hu ((ag (es.get i) off len).set n v) 0 len)) λe=>tP (R.set r (some ⟨true,ty,sz,.gen [e]⟩)) λR=>K .dead R
    |_,_,_=>False
   |none=>False
  |_=>False
def Vl(T:iy)(t:TypeId)(x:D)(Vk:Bool)(n:Int)(R:Rows)(K:D->Rows->Prop):Prop:=
 match T.get t with
 |some ⟨.slice _ iJ,_,_,_,_,_⟩=>match x with
  |.sl sz es _=>cv (bX sz iJ&&bN 0 iJ&&decide (0<=n/\n<es.len)) (K (.iu sz es n.toNat 0) R)
  |.own r o m=>match R.getD r none with
   |some ⟨_,_,sz,_⟩=>cv (bX sz iJ&&bN 0 iJ&&decide (0<=n/\n<m)) (K (.ptr r (o+n.toNat) 0) R)
   |none=>False
  |.all r=>match R.getD r none with
   |some ⟨_,_,sz,es⟩=>cv (bX sz iJ&&bN 0 iJ&&decide (0<=n/\n<es.len)) (K (.ptr r n.toNat 0) R)
   |none=>False
  |_=>False
 |some ⟨.array len e iJ,_,_,_,_,_⟩=>cv (bN 0 iJ&&decide (0<=n/\n<len))<|match x with
  |.ptr r i off=>match Vk with
   |true=>K (.ptr r i (off+n.toNat*iJ)) R
   |false=>match T.get e with
    |some ⟨.int k,_,_,_,_,_⟩=>cv (bX iJ 1) (K (.pa r i off len (some k) n.toNat) R)
    |some ⟨.bool,_,_,_,_,_⟩=>cv (bX iJ 1) (K (.pa r i off len none n.toNat) R)
    |_=>K (.ptr r i (off+n.toNat*iJ)) R
  |.iu sz es i off=>K (.iu sz es i (off+n.toNat*iJ)) R
  |_=>False
 |_=>False
def rT(x:Option Operand)(ev:Operand->D)(n:Int):Option Int:=match x with|none=>some n|some y=>match ev y with|.int _ m=>some m|_=>none
def MI(T:iy)(t:TypeId)(x:D)(lo hi:Option Operand)(ev:Operand->D)(R:Rows)(K:D->Rows->Prop):Prop:=
 match T.get t with
 |some ⟨.string,_,_,_,_,_⟩=>match x with
  |.str s=>match rT lo ev 0,rT hi ev s.length with
   |some l,some h=>cv (decide (0<=l/\l<=h/\h<=s.length)) (K (.str ((s.drop l.toNat).take (h.toNat-l.toNat))) R)
   |_,_=>False
  |_=>False
 |some ⟨.slice _ iJ,_,_,_,_,_⟩=>match x with
  |.sl sz es fr=>match rT lo ev 0,rT hi ev es.len with
   |some l,some h=>cv (bX sz iJ&&bN 0 iJ&&decide (0<=l/\l<=h/\h<=es.len)) (K (.sl sz ((es.drop l.toNat).take (h.toNat-l.toNat)) fr) R)
   |_,_=>False
  |.all r=>match R.getD r none with
   |some ⟨_,_,sz,es⟩=>match rT lo ev 0,rT hi ev es.len with
    |some l,some h=>cv (bX sz iJ&&bN 0 iJ&&decide (0<=l/\l<=h/\h<=es.len)) (K (.own r l.toNat (h.toNat-l.toNat)) R)
    |_,_=>False
   |none=>False
  |.own r o n=>match R.getD r none with
   |some ⟨_,_,sz,_⟩=>match rT lo ev 0,rT hi ev n with
    |some l,some h=>cv (bX sz iJ&&bN 0 iJ&&decide (0<=l/\l<=h/\h<=n)) (K (.own r (o+l.toNat) (h.toNat-l.toNat)) R)
    |_,_=>False
   |none=>False
  |_=>False
 |some ⟨.array len e iJ,_,_,_,_,_⟩=>match x,lo,hi with
  |.iu sz es i off,none,none=>match T.get e with
   |some ⟨.int k,_,_,_,_,_⟩=>cv (bX iJ 1&&(gH (off+len) sz&&CN k (es.get i) off len)) (K (.sl 1 (.ints k (ints (es.get i) off len)) false) R)
   |_=>False
  |_,_,_=>False
 |_=>False
def uP(T:iy)(t:TypeId)(n m:Int)(R:Rows)(K:D->Rows->Prop):Prop:=
 match T.get t with
 |some ⟨.slice e _,_,_,_,_,_⟩=>match T.get e with
  |some ⟨_,sz,lF,_,some z,_⟩=>cv (bN 0 sz&&bX z.length sz&&z.all D.plain&&decide (0<=n/\n<=m/\m<=9223372036854775807/\(lF:Int)*m<=140737488355328))
   (uK R ⟨false,e,sz,ai.Fz e n.toNat z⟩ λk R=>K (.all k) R)
  |_=>False
 |_=>False
def sW(T:iy)(t:TypeId)(x:D)(R:Rows)(K:D->Rows->Prop):Prop:=
 match T.get t with
 |some ⟨.string,_,_,_,_,_⟩=>match x with
  |.str s=>K (.int .i64 s.length) R
  |_=>False
 |some ⟨.slice _ _,_,_,_,_,_⟩=>match x with
  |.sl _ es _=>K (.int .i64 es.len) R
  |.own _ _ n=>K (.int .i64 n) R
  |.all r=>match R.getD r none with
   |some ⟨_,_,_,es⟩=>K (.int .i64 es.len) R
   |none=>False
  |.c8=>K (.int .i64 0) R
  |.emp=>K (.int .i64 0) R
  |_=>False
 |_=>False
def MJ(T:iy)(t:TypeId)(parts:List (Nat×Operand))(ev:Operand->D)(R:Rows)(K:D->Rows->Prop):Prop:=
 match T.get t with
 |some ⟨.struct fs,_,_,_,some ds,_⟩=>cv (fs.all λf=>bN 0 f.2.2)<|Fy (λi=>(fs[i]?).map λf=>(f.1,f.2.2)) ev parts ds λcs=>K (.agg cs) R
 |some ⟨.array _ _ iJ,_,_,_,some ds,_⟩=>cv (bN 0 iJ)<|Fy (λi=>some (i*iJ,iJ)) ev parts ds λcs=>K (.agg cs) R
 |_=>False
def MK(T:iy)(t:TypeId)(len:Nat)(parts:List (Nat×Operand))(ev:Operand->D)(R:Rows)(K:D->Rows->Prop):Prop:=
 match T.get t with
 |some ⟨.slice e _,_,_,_,_,_⟩=>match T.get e with
  |some ⟨_,sz,_,_,some z,_⟩=>cv (bN 0 sz&&bX z.length sz&&gH (len*sz) 16777216&&z.all D.plain)<|
   FA sz len ev parts (cO len z) λes=>match len with|0=>K .emp R|_+1=>K (.sl sz (ai.Rm e es) true) R
  |_=>False
 |_=>False
def Vc(t:TypeId)(len:Nat):Bool:=gH 2 len&&FJ.any λq=>bX q t
def Z0p(T:iy)(t:TypeId)(len:Nat)(parts:List (Nat×Operand))(ev:Operand->D)(R:Rows)(K:D->Rows->Prop):Prop:=
 match T.get t with
 |some ⟨.slice e _,_,_,_,_,_⟩=>match T.get e with
  |some ⟨_,sz,_,_,some z,_⟩=>cv (bN 0 sz&&bX z.length sz&&gH (len*sz) 16777216&&z.all D.plain)<|
   FA sz len ev parts (cO len z) λes=>uK R ⟨false,e,sz,ai.Rm e es⟩ λk R=>K (.all k) R
  |_=>False
 |_=>False
def HG(T:iy)(t:TypeId)(len:Nat)(parts:List (Nat×Operand))(ev:Operand->D)(R:Rows)(K:D->Rows->Prop):Prop:=
 Ae (Vc t len) (Z0p T t len parts ev R K) (MK T t len parts ev R K)
def Hn:iE->Option (Nat×Nat×Nat)|.ptr r i off=>some (r,i,off)|_=>none
def QU:List iE->Option (List (Nat×Nat×Nat))
 |[]=>some []
 |x::l=>match Hn x,QU l with|some p,some ps=>some (p::ps)|_,_=>none
def CP:D->Option iE
 |.ptr r i off=>some (.ptr r i off)
 |.int k n=>some (.int k n)
 |.all r=>some (.arr r)
 |.sl a b fr=>some (.sl a b fr)
 |.gm f cs=>match QU cs with|some ps=>some (.fn f ps)|none=>none
 |_=>none
def KI:List D->Option (List iE)
 |[]=>some []
 |d::l=>match CP d,KI l with|some x,some xs=>some (x::xs)|_,_=>none
def gr(T:iy)(o:Op)(ev:Operand->D)(R:Rows)(K:D->Rows->Prop):Prop:=
 match o with
 |.move x|.assign x=>(ev x).force λd=>K d R
 |.alloc t=>match T.get t with
  |some ⟨_,sz,_,_,some ds,_⟩=>cv (bN 0 sz&&bX ds.length sz) (uK R ⟨true,t,sz,.gen [ds]⟩ λk R=>K (.ptr k 0 0) R)
  |_=>False
 |.box t x=>match T.get t with
  |some ⟨_,sz,_,_,_,_⟩=>cv (bN 0 sz&&(ev x).isVal&&bX (ev x).cells.length sz) (D.j5 (ev x).cells λcs=>uK R ⟨true,t,sz,.gen [cs]⟩ λk R=>K (.ptr k 0 0) R)
  |none=>False
 |.build t parts=>MJ T t parts.toList ev R K
 |.buildSlice t len parts=>HG T t len parts.toList ev R K
 |.load t a=>wN T t (ev a) R K
 |.store t a x=>Hv T t (ev a) (ev x) R K
 |.nilCheck x=>match ev x with
  |.ptr a b c=>K (.ptr a b c) R
  |.iu a b c d=>K (.iu a b c d) R
  |_=>False
 |.binOp op t x y _=>sQ T op t (ev x) (ev y) λd=>K d R
 |.unOp op _ x=>match op,ev x with
  |.neg,.int k n=>K (.int k (k.wrap (0-n))) R
  |.xor,.int k n=>K (.int k (rD k (if k.signed then-1 else k.max) n)) R
  |.not,.bool b=>K (.bool (!b)) R
  |_,_=>False
 |.convert s d x=>MH T s d (ev x) λv=>K v R
 |.fieldAddr s x f=>match Rc T s f with
  |some (o,_,n)=>cv (bN 0 n)<|match ev x with
   |.ptr r i off=>K (.ptr r i (off+o)) R
   |.iu sz es i off=>K (.iu sz es i (off+o)) R
   |_=>False
  |none=>False
 |.field s x f=>match Rc T s f with
  |some (o,t,n)=>match ev x,T.get t with
   |.agg cs,some ti=>cv (bN 0 n&&gH (o+n) cs.length)<|match ti.kind.isAgg with
    |true=>D.j5 ((cs.drop o).take n) λl=>K (.agg l) R
    |false=>cv (cs.getD o .dead).u0 ((cs.getD o .dead).force λd=>K d R)
   |_,_=>False
  |none=>False
 |.indexAddr t x ix=>match ev ix with
  |.int _ n=>Vl T t (ev x) (match ix with|.const _=>true|_=>false) n R K
  |_=>False
 |.index t x ix=>match T.get t,ev x,ev ix with
  |some ⟨.string,_,_,_,_,_⟩,.str s,.int _ n=>cv (decide (0<=n/\n<s.length)) (K (.int .u8 ((s.getD n.toNat 0).toNat:Int)) R)
  |some ⟨.array len e iJ,_,_,_,_,_⟩,.agg cs,.int _ n=>cv (bX iJ 1&&(bX cs.length len&&decide (0<=n/\n<len)))<|match T.get e with
   |some ⟨.int k,_,_,_,_,_⟩=>cv (CN k cs 0 len) (K (.int k ((ints cs 0 len).getD n.toNat 0)) R)
   |some ⟨.bool,_,_,_,_,_⟩=>cv (Hm cs 0 len) (K (.bool ((ag cs 0 len).getD n.toNat false)) R)
   |_=>False
  |_,_,_=>False
 |.extract x i=>match ev x with
  |.dw ds=>cv (ds.getD i .dead).isVal ((ds.getD i .dead).force λd=>K d R)
  |_=>False
 |.slice t x lo hi none=>MI T t (ev x) lo hi ev R K
 |.makeSlice t l c=>match ev l,ev c with
  |.int _ n,.int _ m=>uP T t n m R K
  |_,_=>False
 |.call {callee:=.builtin .len,args,argTypes}=>match args.toList,argTypes.toList with
  |[x],[t]=>sW T t (ev x) R K
  |_,_=>False
 |.makeFunc fn first captured=>match fn with
  |.func f=>cv (bX first.size 0&&bN f YB)<|match KI (captured.toList.map ev)with
   |some cs=>K (.gm f cs) R
   |none=>False
  |_=>False
 |_=>False
def pos(r:Nat):List Nat->Nat->Nat
 |[],k=>k
 |x::l,k=>match bX x r with|true=>k|false=>pos r l (k+1)
def da(r:Nat):List Nat->Bool
 |[]=>false
 |x::l=>match bX x r with|true=>true|false=>da r l
def py:List Nat->List Nat->Bool
 |[],_=>true
 |x::l,m=>match da x m with|true=>py l m|false=>false
def pr:List Nat->List Nat->Bool
 |[],_=>true
 |x::l,m=>match da x m with|true=>false|false=>pr l m
def lz:List Nat->List Nat->List Nat
 |ids,[]=>ids
 |ids,x::l=>match da x ids with|true=>lz ids l|false=>lz (ids++[x]) l
def CR:List Nat->Bool
 |[]=>true
 |x::l=>match da x l with|true=>false|false=>CR l
def CK:iE->List Nat|.ptr r _ _=>[r]|.arr r=>[r]|.fn _ ps=>ps.map (·.1)|_=>[]
def rp:List iE->List Nat
 |[]=>[]
 |x::l=>CK x++rp l
def iE.jg(f:Nat->Nat)(du:Bool):iE->iE
 |.ptr r i off=>.ptr (f r) i off
 |.int k n=>.int k n
 |.arr r=>.arr (f r)
 |.sl a b fr=>.sl a b (fr&&du)
 |.fn g ps=>.fn g (ps.map λp=>(f p.1,p.2))
def nL:D->List Nat|.gm _ cs=>rp cs|.gq r=>[r]|.all r=>[r]|.own r _ _=>[r]|.ptr r _ _=>[r]|.pa r _ _ _ _ _=>[r]|_=>[]
def pR:List D->List Nat
 |[]=>[]
 |d::l=>nL d++pR l
def Fp:D->List Nat|.agg cs=>pR cs|d=>nL d
def D.fe(ks:List Nat):D->D
 |.all r=>match da r ks with|true=>.dead|false=>.all r
 |.own r o n=>match da r ks with|true=>.dead|false=>.own r o n
 |.ptr r i off=>match da r ks with|true=>.dead|false=>.ptr r i off
 |.pa r i off l k n=>match da r ks with|true=>.dead|false=>.pa r i off l k n
 |.gq r=>match da r ks with|true=>.dead|false=>.gq r
 |.gm f cs=>match pr (rp cs) ks with|true=>.gm f cs|false=>.dead
 |d=>d
def D.jk(ks:List Nat):List D->List D
 |[]=>[]
 |d::l=>d.fe ks::jk ks l
def D.kill(ks:List Nat):D->D
 |.agg cs=>.agg (D.jk ks cs)
 |d=>d.fe ks
def D.pK(ks:List Nat):List D->List D
 |[]=>[]
 |d::l=>d.kill ks::pK ks l
def D.j0(ks:List Nat):D->D
 |.dw ds=>.dw (D.pK ks ds)
 |d=>d.kill ks
def Row.kill(ks:List Nat):Row->Row
 |⟨true,ty,sz,.gen [e]⟩=>⟨true,ty,sz,.gen [D.jk ks e]⟩
 |r=>r
def rR(ks:List Nat):Rows->Nat->Rows
 |[],_=>[]
 |x::l,i=>(match da i ks with|true=>none|false=>match x with|some row=>some (row.kill ks)|none=>none)::rR ks l (i+1)
def Gp(ks:List Nat):List (Nat×D)->(List (Nat×D)->Prop)->Prop
 |[],K=>K []
 |(t,d)::l,K=>(d.j0 ks).force λd=>Gp ks l λl=>K ((t,d)::l)
def o8(s:List UInt8):List Int:=s.map λb=>(b.toNat:Int)
def bytesOf(l:List Int):List UInt8:=l.map λn=>UInt8.ofNat n.toNat
def sn(R:Rows):D->Option (Nat×ai)
 |.c8=>some (0,.gen [])
 |.emp=>some (0,.gen [])
 |.sl sz es _=>some (sz,es)
 |.all r=>match R.getD r none with|some ⟨false,_,sz,es⟩=>some (sz,es)|_=>none
 |.own r o n=>match R.getD r none with|some ⟨false,_,sz,es⟩=>some (sz,(es.drop o).take n)|_=>none
 |_=>none
def CC(R:Rows)(ke kx:TK)(y:D):Option (Nat×ai):=
 match kx with
 |.slice _ _=>sn R y
 |.string=>match ke,y with
  |.int .u8,.str s=>some (1,.ints .u8 (o8 s))
  |_,_=>none
 |_=>none
def ID:ai->Bool|.gen []=>true|_=>false
def Z8(e sz lF:Nat)(R:Rows)(ks:List Nat)(es ys:ai)(K:List Nat->D->Rows->Prop):Prop:=
 cv (decide (lF*(es.len+ys.len)<=140737488355328))<|tP (rR ks R 0++[some ⟨false,e,sz,es.app ys⟩]) λR'=>K ks (.all R.length) R'
def Mt (T:iy)(M:Nat)(t tx:TypeId)(x y:D)(R:Rows)(K:List Nat->D->Rows->Prop):Prop:=
 match T.get t with
 |some ⟨.slice e iJ,_,_,_,_,_⟩=>match T.get e,T.get tx with
  |some ⟨ke,sz,lF,_,some z,_⟩,some ⟨kx,_,_,_,_,_⟩=>match CC R ke kx y with
   |some (sy,ys)=>cv ((bN 0 sz&&bX iJ sz)&&(bX z.length sz&&z.all D.plain)&&(bN 0 lF&&(bX sy sz||ID ys)))<|
    match x with
    |.c8=>Z8 e sz lF R [] (.gen []) ys K
    |.emp=>Z8 e sz lF R [] (.gen []) ys K
    |.all r=>match R.getD r none with
     |some ⟨false,ty,s,es⟩=>cv ((bX s sz&&bX ty e)&&gH M r) (Z8 e sz lF R [r] es ys K)
     |_=>False
    |.own r o n=>match R.getD r none with
     |some ⟨false,ty,s,es⟩=>cv ((bX s sz&&bX ty e)&&(gH M r&&bX o 0)) (Z8 e sz lF R [r] (es.take n) ys K)
     |_=>False
    |_=>False
   |none=>False
  |_,_=>False
 |_=>False
def tZ(T:iy)(t tx:TypeId)(x y:D)(R:Rows)(K:D->Rows->Prop):Prop:=
 match T.get t with
 |some ⟨.slice e iJ,_,_,_,_,_⟩=>match T.get e,T.get tx with
  |some ⟨ke,sz,_,_,_,_⟩,some ⟨kx,_,_,_,_,_⟩=>match CC R ke kx y with
   |some (sy,ys)=>cv ((bN 0 sz&&bX iJ sz)&&(bX sy sz||ID ys))<|
    match x with
    |.all r=>match R.getD r none with
     |some ⟨false,ty,s,es⟩=>cv (bX s sz)<|tP (R.set r (some ⟨false,ty,s,(ys.take (min ys.len es.len)).app (es.drop (min ys.len es.len))⟩)) λR'=>K (.int .i64 (min ys.len es.len:Nat)) R'
     |_=>False
    |.own r o n=>match R.getD r none with
     |some ⟨false,ty,s,es⟩=>cv (bX s sz)<|tP (R.set r (some ⟨false,ty,s,((es.take o).app (ys.take (min ys.len n))).app (es.drop (o+min ys.len n))⟩)) λR'=>K (.int .i64 (min ys.len n:Nat)) R'
     |_=>False
    |_=>False
   |none=>False
  |_,_=>False
 |_=>False
inductive Ans where
 |no
 |ok (res:D) (rows:List Row)
 |when (p:Prop) (res:D) (rows:List Row)
 |abs (α:Type) (v:α) (res:α->D) (rows:α->List Row)
 |lB (p:Prop) (α:Type) (v:α) (res:α->D) (rows:α->List Row)
structure bb where
 f:FuncId
 refs:List Bool
 flat:Bool
 m:List D->List Row->Ans
 gone:Option Nat
 oZ:Bool
def oJ:List bb->FuncId->Option bb
 |[],_=>none
 |x::l,f=>match bX x.f f with|true=>some x|false=>oJ l f
def Fo(R:Rows):D->Option D
 |.bool b=>some (.bool b)
 |.int k n=>some (.int k n)
 |.str s=>some (.str s)
 |.iz=>some .iz
 |.jJ=>some .jJ
 |.c8=>some (.sl 0 (.gen []) false)
 |.emp=>some (.sl 0 (.gen []) false)
 |.sl a b _=>some (.sl a b false)
 |.all r=>match R.getD r none with|some row=>(match row.box with|false=>some (.sl row.sz row.es false)|true=>none)|none=>none
 |.own r o n=>match R.getD r none with|some row=>(match row.box with|false=>some (.sl row.sz ((row.es.drop o).take n) false)|true=>none)|none=>none
 |_=>none
def JG(R:Rows):List D->Option (List D)
 |[]=>some []
 |d::ds=>match Fo R d,JG R ds with|some x,some xs=>some (x::xs)|_,_=>none
def conv(R:Rows):D->Option D
 |.agg cs=>(JG R cs).map .agg
 |d=>Fo R d
def D.my(f:Nat->Nat)(du:Bool):D->D
 |.all r=>.all (f r)
 |.own r o n=>.own (f r) o n
 |.ptr r i off=>.ptr (f r) i off
 |.pa r i off l k n=>.pa (f r) i off l k n
 |.sl a b fr=>.sl a b (fr&&du)
 |.gm g cs=>.gm g (cs.map (iE.jg f du))
 |.gq r=>.gq (f r)
 |d=>d
def D.mz(f:Nat->Nat)(du:Bool):List D->List D
 |[]=>[]
 |d::l=>d.my f du::mz f du l
def D.jg(f:Nat->Nat)(du:Bool):D->D
 |.agg cs=>.agg (D.mz f du cs)
 |d=>d.my f du
def D.AF(f:Nat->Nat)(du:Bool):List D->List D
 |[]=>[]
 |d::l=>d.jg f du::AF f du l
def D.sS(f:Nat->Nat)(du:Bool):D->D
 |.dw ds=>.dw (D.AF f du ds)
 |d=>d.jg f du
def Row.jg(f:Nat->Nat)(du:Bool):Row->Row
 |⟨true,ty,sz,.gen [e]⟩=>⟨true,ty,sz,.gen [D.mz f du e]⟩
 |r=>r
def CJ(R:Rows):List Nat->List Nat
 |[]=>[]
 |r::l=>(match R.getD r none with|some ⟨true,_,_,.gen [e]⟩=>pR e|_=>[])++CJ R l
def CS:List Bool->List D->List Nat
 |true::bs,d::ds=>Fp d++CS bs ds
 |false::bs,_::ds=>CS bs ds
 |_,_=>[]
def lJ:List Bool->List D->List Nat
 |true::bs,_::ds=>lJ bs ds
 |false::bs,d::ds=>Fp d++lJ bs ds
 |[],d::ds=>Fp d++lJ [] ds
 |_,[]=>[]
def mw(R:Rows)(bs:List Bool)(args:List D):List Nat:=
 let a:=lz [] (CS bs args)
 let b:=lz a (CJ R a)
 lz b (CJ R b)
def Bk(R:Rows)(f:Nat->Nat):List Nat->Option (List Row)
 |[]=>some []
 |r::l=>match R.getD r none,Bk R f l with
  |some row,some rs=>some (row.jg f false::rs)
  |_,_=>none
def sO(R:Rows)(f:Nat->Nat):List Bool->List D->Option (List D)
 |true::bs,d::ds=>match d.isVal,sO R f bs ds with|true,some xs=>some (d.jg f false::xs)|_,_=>none
 |false::bs,d::ds=>match conv R d,sO R f bs ds with|some x,some xs=>some (x::xs)|_,_=>none
 |[],d::ds=>match conv R d,sO R f [] ds with|some x,some xs=>some (x::xs)|_,_=>none
 |_,[]=>some []
def bk(ids:List Nat)(n0 i:Nat):Nat:=match ids[i]? with|some r=>r|none=>n0+(i-ids.length)
def tQ(f:Nat->Nat):List Nat->List Row->Rows->Rows
 |r::ids,row::rows,R=>tQ f ids rows (R.set r (some (row.jg f true)))
 |_,_,R=>R
def Bo(f:Nat->Nat)(rows:List Row):Rows:=rows.map λrow=>some (row.jg f true)
inductive Ex where
 |normal|exit (id:Nat)|ret
def St.put(N:Nat)(st:St)(dst:Option Tmp)(d:D)(R:Rows)(K:St->Prop):Prop:=
 match dst with
 |none=>K ⟨st.env,R⟩
 |some t=>cv (bN t N) (K ⟨(t,d)::st.env,R⟩)
def St.jW(st:St)(c:Operand)(b:Bool):St:=
 match c with
 |.tmp t=>⟨(t,.bool b)::st.env,st.rows⟩
 |_=>st
def Eg(R:Rows)(ids:List Nat)(res:D)(aj:List Row)(K:D->Rows->Prop):Prop:=
 cv (gH ids.length aj.length)<|(res.sS (bk ids R.length) true).force λres=>
  tP (tQ (bk ids R.length) ids aj R++Bo (bk ids R.length) (aj.drop ids.length)) λR=>K res R
def sU(G:List bb)(f:FuncId)(args:List D)(R:Rows)(K:D->Rows->Prop):Prop:=
 match oJ G f with
 |some x=>
  match sO R (λr=>pos r (mw R x.refs args) 0) x.refs args,Bk R (λr=>pos r (mw R x.refs args) 0) (mw R x.refs args)with
  |some az,some rows=>
   cv ((x.flat&&(match mw R x.refs args with|[]=>true|_=>false)||(match lJ x.refs args with|[]=>true|_=>false))&&
    (py (CS x.refs args) (mw R x.refs args)&&py (CJ R (mw R x.refs args)) (mw R x.refs args))&&
    (CR (mw R x.refs args)&&pr (lJ x.refs args) (mw R x.refs args)))<|
   match x.m az rows with
   |.ok res aj=>Eg R (mw R x.refs args) res aj K
   |.when p res aj=>p/\Eg R (mw R x.refs args) res aj K
   |.abs _ v res aj=>∀X,X=v->Eg R (mw R x.refs args) (res X) (aj X) K
   |.lB p _ v res aj=>p/\∀X,X=v->Eg R (mw R x.refs args) (res X) (aj X) K
   |.no=>False
  |_,_=>False
 |none=>False
def oX(G:List bb)(f:FuncId):Option Nat:=match oJ G f with|some x=>x.gone|none=>none
def Fl(f:Nat->Nat):List Nat->List Row->Rows->Rows
 |r::ids,row::rows,R=>Fl f ids rows (R.set r (some (row.jg f false)))
 |_,_,R=>R
def QJ(f:Nat->Nat)(rows:List Row):Rows:=rows.map λrow=>some (row.jg f false)
def Hh(R:Rows)(MV gid:List Nat)(res:D)(aj:List Row)(K:List Nat->D->Rows->Prop):Prop:=
 cv (gH MV.length aj.length)<|(res.sS (bk MV R.length) false).force λres=>
  tP (Fl (bk MV R.length) MV aj (rR gid R 0)++QJ (bk MV R.length) (aj.drop MV.length)) λR=>K gid res R
def Ij(G:List bb)(M:Nat)(f:FuncId)(k:Nat)(args:List D)(R:Rows)(K:List Nat->D->Rows->Prop):Prop:=
 match oJ G f with
 |some x=>
  match sO R (λr=>pos r (mw R x.refs args) 0) x.refs args,Bk R (λr=>pos r (mw R x.refs args) 0) (mw R x.refs args)with
  |some az,some rows=>
   cv (((match lJ x.refs args with|[]=>true|_=>false)&&(match x.refs with|[]=>false|_=>true))&&
    (py (CS x.refs args) (mw R x.refs args)&&py (CJ R (mw R x.refs args)) (mw R x.refs args))&&
    (CR (mw R x.refs args)&&((mw R x.refs args).drop k).all λr=>gH M r))<|
   match x.m az rows with
   |.abs _ v res aj=>∀X,X=v->Hh R ((mw R x.refs args).take k) ((mw R x.refs args).drop k) (res X) (aj X) K
   |.lB p _ v res aj=>p/\∀X,X=v->Hh R ((mw R x.refs args).take k) ((mw R x.refs args).drop k) (res X) (aj X) K
   |_=>False
  |_,_=>False
 |none=>False
def BL(G:List bb)(f:FuncId):Bool:=match oJ G f with|some x=>x.oZ|none=>false
def CI(G:List bb)(M:Nat)(f:FuncId)(args:List D)(R:Rows)(K:List Nat->D->Rows->Prop):Prop:=
 match oJ G f with
 |some x=>
  match sO R (λr=>r) [] args,Bk R (λr=>pos r (lz [] (lJ [] args)) 0) (lz [] (lJ [] args))with
  |some az,some rows=>
   cv (((match x.refs with|[]=>true|_=>false)&&rows.all λr=>!r.box)&&(CR (lz [] (lJ [] args))&&(py (lJ [] args) (lz [] (lJ [] args))&&(lz [] (lJ [] args)).all λr=>gH M r)))<|
   match x.m az []with
   |.abs _ v res aj=>∀X,X=v->Hh R [] (lz [] (lJ [] args)) (res X) (aj X) K
   |.lB p _ v res aj=>p/\∀X,X=v->Hh R [] (lz [] (lJ [] args)) (res X) (aj X) K
   |_=>False
  |_,_=>False
 |none=>False
def Rb:D->Bool|.gm _ _=>false|.gq _=>false|.all _=>false|.own _ _ _=>false|.ptr _ _ _=>false|.pa _ _ _ _ _ _=>false|_=>true
def Vh:List D->Bool
 |[]=>true
 |d::l=>match Rb d with|true=>Vh l|false=>false
def sV:D->Bool|.agg cs=>Vh cs|d=>Rb d
def Vi:List D->Bool
 |[]=>true
 |d::l=>match sV d with|true=>Vi l|false=>false
def uO:D->Bool|.dw ds=>Vi ds|d=>sV d
def MG(R:Rows)(res:D)(aj:List Row)(K:D->Rows->Prop):Prop:=
 match aj with
 |[]=>cv (uO res) (res.force λres=>K res R)
 |_=>(res.sS (bk [] R.length) true).force λres=>tP (R++Bo (bk [] R.length) aj) λR=>K res R
def CV:List Nat->Bool|[]=>true|_=>false
def KD(G:List bb)(f:FuncId)(args:List D)(R:Rows)(K:D->Rows->Prop):Prop:=
 match oJ G f with
 |some x=>match x.refs with
  |[]=>match sO R (λr=>r) [] args with
   |some az=>cv (x.flat||CV (lJ [] args))<|match x.m az []with
    |.ok res aj=>MG R res aj K
    |.when p res aj=>p/\MG R res aj K
    |.abs _ v res aj=>∀X,X=v->MG R (res X) (aj X) K
    |.lB p _ v res aj=>p/\∀X,X=v->MG R (res X) (aj X) K
    |.no=>False
   |none=>False
  |_=>sU G f args R K
 |none=>False
def wg(T:iy)(e d:TypeId)(x:D)(R:Rows)(K:D->Prop):Prop:=
 match T.get e,T.get d with
 |some ⟨.int .u8,_,_,_,_,_⟩,some ⟨.string,_,_,_,_,_⟩=>match sn R x with
  |some (s,es)=>match es.toI .u8 with
   |some l=>cv (bX s 1||ID es) (K (.str (bytesOf l)))
   |none=>False
  |none=>False
 |_,_=>False
def ai.Nil:ai->Prop
 |.gen es=>es=[]
 |.ints _ l=>l=[]
 |.ag l=>l=[]
 |.ah _ l=>l=[]
def KA(T:iy)(t:TypeId)(es:ai)(K:D->Prop):Prop:=
 match T.get t with
 |some ⟨.slice _ _,_,_,_,_,_⟩=>K (.mP es)
 |_=>False
def we(mx:Bool)(x y:D)(K:D->Prop):Prop:=
 match x,y with
 |.int k a,.int k' b=>cv (decide (k=k')) (K (.int k (match mx with|true=>(if b>a then b else a)|false=>(if b<a then b else a))))
 |_,_=>False
def lO(T:iy)(G:List bb)(N M:Nat)(o:Oper)(st:St)(K:St->Prop):Prop:=
  match o.op with
  | .pick c a b=>match cu st.env c with
    | .bool t=>Ae t ((cu st.env a).force λd=>st.put N o.dst d st.rows K) ((cu st.env b).force λd=>st.put N o.dst d st.rows K)
    |_=>False
  | .call {callee:= .value (.func f),args, .. }=>match oX G f with
    | none=>match BL G f with
      |false=>KD G f (args.toList.map (cu st.env)) st.rows λd R=>st.put N o.dst d R K
      |true=>CI G M f (args.toList.map (cu st.env)) st.rows λks d R=>Gp ks st.env λenv=>St.put N ⟨env,R⟩ o.dst d R K
    |some k=>cv (bN f YB)<|Ij G M f k (args.toList.map (cu st.env)) st.rows λks d R=>Gp ks st.env λenv=>St.put N ⟨env,R⟩ o.dst d R K
  | .call {callee:= .value (.tmp t),args, .. }=>match look st.env t with
    | .gm f cs=>match oX G f with
      | none=>match BL G f with
        |false=>KD G f (args.toList.map (cu st.env)++cs.map iE.d) st.rows λd R=>st.put N o.dst d R K
        |true=>False
      |some k=>cv (bN f YB||bX args.size 1)<|Ij G M f k (args.toList.map (cu st.env)++cs.map iE.d) st.rows λks d R=>Gp ks st.env λenv=>St.put N ⟨env,R⟩ o.dst d R K
    |_=>False
  | .call {callee:= .builtin .append,args,argTypes}=>match args.toList,argTypes.toList with
    |[x,y],[t,tx]=>Mt T M t tx (cu st.env x) (cu st.env y) st.rows λks d R=>Gp ks st.env λenv=>St.put N ⟨env,R⟩ o.dst d R K
    |_,_=>False
  | .call {callee:= .builtin .copy,args,argTypes}=>match args.toList,argTypes.toList with
    |[x,y],[t,tx]=>tZ T t tx (cu st.env x) (cu st.env y) st.rows λd R=>st.put N o.dst d R K
    |_,_=>False
  | .call {callee:= .builtin .min,args, .. }=>match args.toList with
    |[x,y]=>we false (cu st.env x) (cu st.env y) λd=>st.put N o.dst d st.rows K
    |_=>False
  | .call {callee:= .builtin .max,args, .. }=>match args.toList with
    |[x,y]=>we true (cu st.env x) (cu st.env y) λd=>st.put N o.dst d st.rows K
    |_=>False
  | .convert s d x=>match T.get s with
    |some ⟨.slice e _,_,_,_,_,_⟩=>wg T e d (cu st.env x) st.rows λd=>st.put N o.dst d st.rows K
    |_=>gr T (.convert s d x) (cu st.env) st.rows λd R=>st.put N o.dst d R K
  | .binOp op t x y ty=>match op,cu st.env x,cu st.env y with
    | .eql, .sl _ es _, .c8=>KA T t es λd=>st.put N o.dst d st.rows K
    | .eql, .all r, .c8=>match st.rows.getD r none with
      |some ⟨_,_,_,es⟩=>KA T t es λd=>st.put N o.dst d st.rows K
      |none=>False
    |_,_,_=>gr T (.binOp op t x y ty) (cu st.env) st.rows λd R=>st.put N o.dst d R K
  |op=>gr T op (cu st.env) st.rows λd R=>st.put N o.dst d R K
def lW(T:iy)(G:List bb)(N M:Nat)(ops:Array Oper):List Oper->St->(St->Prop)->Prop
  |[],st,K=>K st
  | o :: l, st,K=>match o.guard with
    |none=>lO T G N M o st λst=>lW T G N M ops l st K
    | some (j,want)=>match(ops[j]?).bind (·.dst) with
      | some g=>match look st.env g with
        | .bool b=>Ae b
            (match want with|true=>lO T G N M o (st.jW (.tmp g) true) λst=>lW T G N M ops l st K|false=>(st.jW (.tmp g) true).put N o.dst (.dw []) st.rows λst=>lW T G N M ops l st K)
            (match want with|false=>lO T G N M o (st.jW (.tmp g) false) λst=>lW T G N M ops l st K|true=>(st.jW (.tmp g) false).put N o.dst (.dw []) st.rows λst=>lW T G N M ops l st K)
        | .dw []=>st.put N o.dst (.dw []) st.rows λst=>lW T G N M ops l st K
        |_=>False
      |none=>False
def r6(G:List bb):Op->Bool
 |.store _ _ _=>true
 |.call {callee:=.value (.func f),.. }=>match oJ G f with|some x=>(match x.refs with|[]=>x.oZ|_=>true)|none=>true
 |.call {callee:=.value (.tmp _),.. }=>true
 |.call {callee:=.builtin .append,.. }=>true
 |.call {callee:=.builtin .copy,.. }=>true
 |_=>false
def lg(G:List bb)(o:Op):Bool:=!r6 G o
def Bz(G:List bb)(ops:Array Oper)(b:Array Nat)(i j:Nat):Bool:=
 match ops[i]?,ops[j]? with
 |some x,some y=>
  (x.apart ops y||(b.getD j 0).testBit i)&&((lg G x.op&&lg G y.op)||(b.getD j 0).testBit i)
 |_,_=>true
def HY(G:List bb)(ops:Array Oper):Bool:=
 let b:=Region.before ops
 (cW ops.size).all λj=>(match ops[j]? with|some o=>o.after.all λe=>!Region.binds .any e||bN e.on j|none=>true)&&(cW j).all λi=>Bz G ops b i j
def kY(ops:Array Oper)(i a:Nat):Bool:=(ops.toList.drop i).all λo=>match o.dst with|some d=>!(bX d a)|none=>true
def lT:List Operand->List Nat
 |[]=>[]
 |.tmp a::l=>a::lT l
 |_::l=>lT l
def rC:Op->Option (List Nat)
 |.assign x=>some (lT [x])
 |.move x=>some (lT [x])
 |.extract x _=>some (lT [x])
 |.nilCheck x=>some (lT [x])
 |.fieldAddr _ x _=>some (lT [x])
 |.buildSlice t len parts=>(match Vc t len with|true=>none|false=>some (lT (parts.toList.map (·.2))))
 |_=>none
def lK(env:List (Nat×D))(op:Op):Option (List Nat):=
 match rC op with
 |some q=>some q
 |none=>match op with
  |.build _ parts=>some (lT (parts.toList.map (·.2)))
  |.binOp _ _ x y _=>match cu env x with|.int _ _=>some (lT [x,y])|.str _=>some (lT [x,y])|.bool _=>some (lT [x,y])|_=>none
  |.unOp _ _ x=>some (lT [x])
  |.convert _ _ x=>match cu env x with|.int _ _=>some (lT [x])|.str _=>some (lT [x])|_=>none
  |.field _ x _=>some (lT [x])
  |.index _ x y=>some (lT [x,y])
  |.slice _ x (some y) (some z) none=>match cu env x with|.str _=>some (lT [x,y,z])|.sl _ _ _=>some (lT [x,y,z])|_=>none
  |.slice _ x (some y) none none=>match cu env x with|.str _=>some (lT [x,y])|.sl _ _ _=>some (lT [x,y])|_=>none
  |.slice _ x none (some z) none=>match cu env x with|.str _=>some (lT [x,z])|.sl _ _ _=>some (lT [x,z])|_=>none
  |.indexAddr _ x y=>match cu env x with|.sl _ _ _=>some (lT [x,y])|_=>none
  |.load _ x=>match cu env x with|.iu _ _ _ _=>some (lT [x])|_=>none
  |.call {callee:=.builtin .len,args,.. }=>match args.toList with|[x]=>(match cu env x with|.str _=>some (lT [x])|.sl _ _ _=>some (lT [x])|_=>none)|_=>none
  |_=>none
def uV:D->Bool|.ptr _ _ _=>true|_=>false
def J1:D->Bool|.emp=>true|.c8=>true|_=>false
def FK:D->Bool|.int _ _=>true|.str _=>true|.bool _=>true|.sl _ _ _=>true|.emp=>true|.c8=>true|.iz=>true|_=>false
def uU:D->Bool|.all _=>true|.int _ _=>true|.str _=>true|.bool _=>true|.sl _ _ _=>true|.iu _ _ _ _=>true|.ptr _ _ _=>true|.emp=>true|.c8=>true|.agg cs=>cs.all FK|_=>false
def Di(ops:Array Oper)(env:List (Nat×D))(i j:Nat)(op:Op)(l:List Operand):Bool:=
 match op,l with
 |.load _ (.tmp a),.tmp x::_=>kY ops i a&&(kY ops j x&&(uV (look env a)&&J1 (look env x)))
 |_,_=>false
def pA:D->Bool|.int _ _=>true|.str _=>true|.bool _=>true|.sl _ _ _=>true|.all _=>true|.agg cs=>cs.all FK|_=>false
def Dj(ops:Array Oper)(env:List (Nat×D))(i:Nat)(op:Op)(dst:Option Nat):Bool:=
 match op,dst with
 |.load _ (.tmp a),some t=>kY ops i a&&(uV (look env a)&&(kY ops (i+1) t&&pA (look env t)))
 |_,_=>false
def MR(G:List bb)(ops:Array Oper)(env:List (Nat×D))(i j:Nat):Bool:=
 match ops[i]?,ops[j]? with
 |some x,some y=>(match x.guard,y.guard,x.op,y.op with
  |none,none,.load _ (.tmp a),.store _ (.tmp b) _=>kY ops i a&&(kY ops j b&&(match look env a,look env b with|.ptr r _ _,.ptr r' _ _=>!(bX r r')|.iu _ _ _ _,.ptr _ _ _=>true|_,_=>false))
  |none,none,op,.store _ (.tmp b) _=>(match lK env op with|some q=>(q.all λa=>kY ops i a)&&(kY ops j b&&(match look env b with|.ptr _ _ _=>true|_=>false))|none=>false)
  |none,none,op,.call {callee:=.value (.func f),.. }=>(match(match oX G f with|some _=>true|none=>BL G f)with|true=>false|false=>match lK env op with|some q=>q.all λa=>kY ops i a|none=>false)
  |none,none,op,.call {callee:=.builtin .append,args,.. }=>(match lK env op with|some q=>(q.all λa=>kY ops i a&&uU (look env a))&&(match x.dst with|some t=>kY ops (i+1) t&&uU (look env t)|none=>true)|none=>Di ops env i j op args.toList||Dj ops env i op x.dst)
  |_,_,_,_=>false)
 |_,_=>false
def uW(ops:Array Oper)(j:Nat):Bool:=
 match ops[j]? with
 |some y=>match y.guard,y.op with
  |none,.alloc _=>(match y.dst with|none=>true|some u=>(cW ops.size).all λk=>bX k j||(match(ops[k]?).bind (·.dst)with|some d=>!(bX d u)|none=>true))
  |_,_=>false
 |none=>false
def wT(G:List bb)(ops:Array Oper)(env:List (Nat×D))(b:Array Nat)(i j:Nat):Bool:=
 match ops[i]?,ops[j]? with
 |some x,some y=>
  (x.apart ops y||(b.getD j 0).testBit i)&&((lg G x.op&&lg G y.op)||(b.getD j 0).testBit i||(MR G ops env i j||uW ops j))
 |_,_=>true
def RE(G:List bb)(ops:Array Oper)(env:List (Nat×D)):Bool:=
 let b:=Region.before ops
 (cW ops.size).all λj=>(match ops[j]? with|some o=>o.after.all λe=>!Region.binds .any e||bN e.on j|none=>true)&&(cW j).all λi=>wT G ops env b i j
def HM(x:Nat):List Nat->Nat->List Nat
 |l,0=>x::l
 |[],_=>[x]
 |y::l,n+1=>y::HM x l n
def Dt(m:Nat):List Nat->Nat->Nat->Nat
 |[],_,r=>r
 |y::l,k,r=>Dt m l (k+1) (match m.testBit y with|true=>k+1|false=>r)
def Du:List Oper->Bool
 |[]=>false
 |o::l=>match o.op with|.buildSlice _ 0 _=>true|_=>Du l
def FU(e e2:Bool)(op:Op):Bool:=match rC op with|some _=>true|none=>(match op with|.load _ _=>e|.slice _ _ _ _ _=>e2|.binOp _ _ _ _ _=>e2|_=>false)
def Dv(e e2:Bool)(ops:Array Oper)(b:Array Nat):List Nat->List Nat->List Nat
 |[],acc=>acc
 |j ::js,acc=>Dv e e2 ops b js (match ops[j]? with
  |some o=>(match o.guard with
   |none=>(match FU e e2 o.op with|true=>HM j acc (Dt (b.getD j 0) acc 0 0)|false=>acc++[j])
   |some _=>acc++[j])
  |none=>acc)
def Sk(ops:Array Oper)(b:Array Nat):Bool:=
 (cW ops.size).any λj=>(match ops[j]? with|some y=>(match y.op with|.load _ _=>true|_=>false)|none=>false)&&(cW j).any λi=>(match ops[i]? with|some x=>(match x.op with|.call {callee:=.builtin .append,.. }=>true|_=>false)|none=>false)&&!((b.getD j 0).testBit i)
def Sl(ops:Array Oper)(b:Array Nat):Bool:=
 (cW ops.size).any λj=>(match ops[j]? with|some y=>(match y.op with|.slice _ _ _ _ _=>true|_=>false)|none=>false)&&(cW j).any λi=>(match ops[i]? with|some x=>(match x.op with|.call {callee:=.builtin .append,.. }=>true|_=>false)|none=>false)&&!((b.getD j 0).testBit i)
def VQ(ops:Array Oper):List Nat:=Dv (Du ops.toList||Sk ops (Region.before ops)) (Sl ops (Region.before ops)) ops (Region.before ops) (cW ops.size) []
def VA(p:List Nat)(n:Nat):Bool:=bX p.length n&&(((cW n).all λi=>da i p)&&((p.all λi=>bN i n)&&CR p))
def Dm(p:List Nat)(e:Edge):Edge:=⟨pos e.on p 0,e.ground⟩
def MS(p:List Nat)(o:Oper):Oper:=⟨o.dst,o.op,o.type,o.pos,o.after.map (Dm p),match o.guard with|none=>none|some (j,w)=>some (pos j p 0,w)⟩
def nu(p:List Nat)(ops:Array Oper):Array Oper:=(p.map λi=>MS p (ops.getD i default)).toArray
def uR(T:iy)(G:List bb)(N M:Nat)(ops:Array Oper)(st:St)(Q:Ex->St->Prop):Prop:=
 match HY G ops with
 |true=>lW T G N M ops ops.toList st λst=>Q .normal st
 |false=>cv (VA (VQ ops) ops.size)<|lW T G N M (nu (VQ ops) ops) (nu (VQ ops) ops).toList st λst=>cv (RE G (nu (VQ ops) ops) st.env) (Q .normal st)
def Z3(i n:Nat):List D->Option (List D)
 |[]=>none
 |d::l=>match d,l with
  |.iz,.c8::m=>some (.gq i:: .all n::m)
  |d,l=>match Z3 i n l with|some l'=>some (d::l')|none=>none
def Sm(T:iy)(t:TypeId):Bool:=match T.get t with|some ⟨_,_,_,_,some ds,_⟩=>(match Z3 0 0 ds with|some _=>true|none=>false)|_=>false
def u5(T:iy):List Oper->Bool
 |[]=>false
 |o::l=>match o.op with|.alloc t=>(match Sm T t with|true=>true|false=>u5 T l)|_=>u5 T l
def Sn:iy->Option TypeId
 |[]=>none
 |(u,i)::l=>match i.kind with|.int .u8=>some u|_=>Sn l
def Jal(T:iy):Code->Option TypeId
 |.region _ ops _=>(match u5 T ops.toList with|true=>Sn T|false=>none)
 |_=>none
def JN(n:Nat):Rows->Nat->Option (Nat×TypeId×Nat×List D)
 |[],_=>none
 |x::l,i=>match x with
  |some ⟨true,ty,sz,.gen [e]⟩=>(match Z3 i n e with|some e'=>some (i,ty,sz,e')|none=>JN n l (i+1))
  |_=>JN n l (i+1)
def JO(T:iy)(a:Code)(st:St)(K:St->Prop):Prop:=
 match Jal T a with
 |none=>K st
 |some u=>match JN st.rows.length st.rows 0 with
  |none=>K st
  |some (i,ty,sz,e)=>D.j5 e λe=>tP (st.rows.set i (some ⟨true,ty,sz,.gen [e]⟩)++[some ⟨false,u,1,.ints .u8 []⟩]) λR=>K ⟨st.env,R⟩
def D.BN(R:Rows)(ks:List Nat):D->D
 |.all r=>match da r ks with
  |true=>(match R.getD r none with|some ⟨false,_,sz,es⟩=>.sl sz es false|_=>.dead)
  |false=>.all r
 |.ptr r i off=>match da r ks with
  |true=>(match R.getD r none with|some ⟨true,_,sz,.gen [e]⟩=>(match e.all D.plain with|true=>.iu sz (.gen [e]) i off|false=>.dead)|_=>.dead)
  |false=>.ptr r i off
 |d=>d.fe ks
def D.so(R:Rows)(ks:List Nat):List D->List D
 |[]=>[]
 |d::l=>d.BN R ks::so R ks l
def D.Io(R:Rows)(ks:List Nat):D->D
 |.agg cs=>.agg (D.so R ks cs)
 |d=>d.BN R ks
def D.Ip(R:Rows)(ks:List Nat):List D->List D
 |[]=>[]
 |d::l=>d.Io R ks::Ip R ks l
def D.BO(R:Rows)(ks:List Nat):D->D
 |.dw ds=>.dw (D.Ip R ks ds)
 |d=>d.Io R ks
def Row.mj(R:Rows)(ks:List Nat):Row->Row
 |⟨true,ty,sz,.gen [e]⟩=>⟨true,ty,sz,.gen [D.so R ks e]⟩
 |r=>r
def KG(R0:Rows)(ks:List Nat):Rows->Nat->Rows
 |[],_=>[]
 |x::l,i=>(match da i ks with|true=>none|false=>match x with|some row=>some (row.mj R0 ks)|none=>none)::KG R0 ks l (i+1)
def Eu(R:Rows)(ks:List Nat):List (Nat×D)->(List (Nat×D)->Prop)->Prop
 |[],K=>K []
 |(t,d)::l,K=>(d.BO R ks).force λd=>Eu R ks l λl=>K ((t,d)::l)
def Dw:List D->List Nat
 |[]=>[]
 |d::l=>(match d with|.all r=>[r]|_=>[])++Dw l
def So:D->List Nat|.agg cs=>Dw cs|.all r=>[r]|_=>[]
def FV(R:Rows)(n:Nat)(d:D):List Nat:=
 match d with
 |.ptr r _ off=>match R.getD r none with|some ⟨true,_,_,.gen [e]⟩=>Dw ((e.drop off).take n)|_=>[]
 |_=>[]
def HN:List (Nat×List Nat)->Nat->Option (List Nat)
 |[],_=>none
 |(u,x)::l,t=>match bX u t with|true=>some x|false=>HN l t
def Zt(env:List (Nat×D)):List (Nat×D)->Nat->D
 |[],t=>look env t
 |(u,x)::l,t=>match bX u t with|true=>x|false=>Zt env l t
def u6(env:List (Nat×D))(acc:List (Nat×List Nat)):Operand->List Nat
 |.tmp t=>match HN acc t with|some l=>l|none=>So (look env t)
 |_=>[]
def wX(env:List (Nat×D))(acc:List (Nat×List Nat)):List Operand->List Nat
 |[]=>[]
 |x::l=>u6 env acc x++wX env acc l
def Kh(T:iy)(env:List (Nat×D))(R:Rows)(acc:List (Nat×List Nat))(pa:List (Nat×D))(o:Oper):List (Nat×List Nat):=
 match o.dst with
 |none=>acc
 |some t=>match o.op with
  |.load ty (.tmp p)=>(t,FV R (match T.get ty with|some i=>i.size|none=>0) (Zt env pa p))::acc
  |.move x=>(t,u6 env acc x)::acc
  |.slice _ x _ _ _=>(t,u6 env acc x)::acc
  |_=>acc
def Ki(T:iy)(env:List (Nat×D))(pa:List (Nat×D))(o:Oper):List (Nat×D):=
 match o.dst with
 |none=>pa
 |some t=>match o.op with
  |.fieldAddr s (.tmp p) f=>(match Rc T s f with|some (k,_,_)=>(match Zt env pa p with|.ptr r i off=>(t,.ptr r i (off+k))::pa|_=>pa)|none=>pa)
  |.move (.tmp p)=>(t,Zt env pa p)::pa
  |.nilCheck (.tmp p)=>(t,Zt env pa p)::pa
  |_=>pa
def Kj(G:List bb)(f:FuncId):Bool:=match oJ G f with|some x=>x.oZ||(match x.refs with|[]=>!x.flat|_=>false)|none=>false
def Sp(T:iy)(env:List (Nat×D))(pa:List (Nat×D))(t:TypeId)(p:Nat):List Nat:=
 match T.get t with
 |some ⟨.array _ _ _,_,_,_,_,_⟩=>(match Zt env pa p with|.ptr r _ _=>[r]|_=>[])
 |_=>[]
def Tb(T:iy)(G:List bb)(env:List (Nat×D))(R:Rows):List (Nat×List Nat)->List (Nat×D)->List Oper->List Nat
 |_,_,[]=>[]
 |acc,pa,o::l=>(match o.op with|.call {callee:=.value (.func f),args,.. }=>(match Kj G f with|true=>wX env acc args.toList|false=>[])|.slice t (.tmp p) _ _ _=>Sp T env pa t p|_=>[])++Tb T G env R (Kh T env R acc pa o) (Ki T env pa o) l
def uk(M:Nat)(R:Rows):List Nat->List Nat
 |[]=>[]
 |r::l=>match gH M r&&(match R.getD r none with|some ⟨false,_,_,_⟩=>true|some ⟨true,_,_,.gen [e]⟩=>e.all D.plain|_=>false)with|true=>r::uk M R l|false=>uk M R l
def Iq(T:iy)(G:List bb)(M:Nat)(ops:Array Oper)(st:St)(K:St->Prop):Prop:=
 match uk M st.rows (Tb T G st.env st.rows [] [] ops.toList)with
 |[]=>K st
 |ks=>Eu st.rows ks st.env λenv=>tP (KG st.rows ks st.rows 0) λR=>K ⟨env,R⟩
def um(T:iy)(R:Rows)(i:Nat):Option (TypeId×Nat×TypeId×Nat):=
 match R.getD i none with
 |some ⟨true,ty,sz,.gen [[d]]⟩=>(match d with
  |.c8=>(match T.get ty with|some ⟨.slice e n,_,_,_,_,_⟩=>(match bN 0 n with|true=>some (ty,sz,e,n)|false=>none)|_=>none)
  |.emp=>(match T.get ty with|some ⟨.slice e n,_,_,_,_,_⟩=>(match bN 0 n with|true=>some (ty,sz,e,n)|false=>none)|_=>none)
  |_=>none)
 |_=>none
def Ir(T:iy):List iE->List (Nat×D)->Rows->(Rows->Prop)->Prop
 |[],_,R,K=>K R
 |.ptr i _ _::l,env,R,K=>(match um T R i with
  |some (ty,sz,e,n)=>uK R ⟨false,e,n,.gen []⟩ λk R=>tP (R.set i (some ⟨true,ty,sz,.gen [[.all k]]⟩)) λR=>Ir T l env R K
  |none=>Ir T l env R K)
 |_::l,env,R,K=>Ir T l env R K
def VR(env:List (Nat×D)):List Operand->List iE
 |[]=>[]
 |.tmp t::l=>(match look env t with|.ptr i o f=>.ptr i o f::VR env l|_=>VR env l)
 |_::l=>VR env l
def wY(env:List (Nat×D)):List Oper->List iE
 |[]=>[]
 |o::l=>(match o.op with|.makeFunc _ _ captured=>VR env captured.toList|_=>[])++wY env l
def splitAt:List (Nat×Nat)->Nat->Option Nat
 |[],_=>none
 |(g,i)::l,f=>match bX g f with|true=>some i|false=>splitAt l f
def Zrt:List (Nat×Operand)->Nat->Operand
 |[],t=>.tmp t
 |(s,x)::l,t=>match bX s t with|true=>x|false=>Zrt l t
def VS:List (Nat×Operand)->List Oper->Option Operand
 |_,[]=>none
 |mv,o::l=>match o.op with
  |.call {callee:=.value (.func f),args,.. }=>(match splitAt splits f with
   |some i=>(match args.toList[i]? with|some (.tmp t)=>some (Zrt mv t)|_=>none)
   |none=>VS mv l)
  |.move x=>VS (match o.dst with|some t=>(t,x)::mv|none=>mv) l
  |_=>VS mv l
def uS(ops:List Oper)(st:St)(K:St->Prop):Prop:=
 match VS [] ops with
 |none=>K st
 |some x=>match cu st.env x with
  |.bool t=>Ae t (K (st.jW x true)) (K (st.jW x false))
  |_=>K st
def o4(T:iy)(G:List bb)(N M:Nat)(L:Code->St->(Ex->St->Prop)->Prop):Code->St->(Ex->St->Prop)->Prop
 |.skip,st,Q=>Q .normal st
 |.label _,st,Q=>Q .normal st
 |.region _ ops draw,st,Q=>uS ops.toList st λst=>Ir T (wY st.env ops.toList) st.env st.rows λR=>Iq T G M ops ⟨st.env,R⟩ λst=>match draw with|true=>uR T G N M ops st Q|false=>lW T G N M ops ops.toList st λst=>Q .normal st
 |.seq a b,st,Q=>o4 T G N M L a st λe st=>match e with|.normal=>JO T a st λst=>o4 T G N M L b st Q|.exit i=>Q (.exit i) st|.ret=>Q .ret st
 |.cond c a b,st,Q=>match cu st.env c with
  |.bool t=>Ae t (o4 T G N M L a (st.jW c true) Q) (o4 T G N M L b (st.jW c false) Q)
  |.mP es=>(es.Nil->o4 T G N M L a (st.jW c true) Q)/\o4 T G N M L b (st.jW c false) Q
  |_=>False
 |.block id c,st,Q=>o4 T G N M L c st λe st=>match e with|.normal=>Q .normal st|.exit i=>(match bX i id with|true=>Q .normal st|false=>Q (.exit i) st)|.ret=>Q .ret st
 |.exit id,st,Q=>Q (.exit id) st
 |.ret,st,Q=>Q .ret st
 |.scope c,st,Q=>o4 T G N M L c st Q
 |c,st,Q=>L c st Q
def FG(T:iy)(R:Rows)(env:List (Nat×D)):List ResultVar->(List D->Prop)->Prop
 |[],K=>K []
 |.tmp t::l,K=>(look env t).force λd=>cv d.isVal (FG T R env l λds=>K (d::ds))
 |.cell a t::l,K=>wN T t (look env a) R λd _=>cv d.isVal (FG T R env l λds=>K (d::ds))
def ka(ex:List Nat)(i r:Nat):Bool:=match ex[i]? with|some x=>bX x r|none=>false
def KL(ex:List Nat)(r:Nat):Bool:=ex.all λx=>!(bX x r)
def IG(ex:List Nat)(R:Rows)(i:Nat):Bool:=match ex[i]? with|some r=>(match R.getD r none with|none=>true|some _=>false)|none=>false
def ai.Eq:ai->ai->Prop
 |.ints k l,.ints k' m=>match decide (k=k')with|true=>l=m|false=>(ai.ints k l).l=(ai.ints k' m).l
 |.ag l,.ag m=>l=m
 |.gen es,.gen fs=>es=fs
 |.gen [],.ints _ m=>m=[]
 |.gen [],.ag m=>m=[]
 |.gen [],.ah _ m=>m=[]
 |.ah k l,.ah k' m=>(match Ge k k' l with|some l'=>l'=m|none=>(ai.ah k l).l=(ai.ah k' m).l)
 |E,F=>E.l=F.l
theorem ai.Af{E F:ai}(h:ai.Eq E F):E.l=F.l:=by
 cases E with
 |gen es=>
  cases es with
  |nil=>cases F<;>simp_all [ai.Eq,ai.l]
  |cons e es=>cases F<;>simp_all [ai.Eq,ai.l]
 |ints k l=>
  cases F with
  |ints k' m=>
   simp only[ai.Eq]at h
   split at h
   ·rename_i hk;subst h;rw[oY hk]
   ·exact h
  |_=>exact h
 |ag l=>
  cases F with
  |ag m=>simp only[ai.Eq]at h;rw[h]
  |_=>exact h
 |ah k l=>
  cases F with
  |ah k' m=>
   simp only[ai.Eq]at h
   split at h
   ·rename_i l' hc
    obtain⟨e,hm⟩:=WE hc
    subst e
    simp only at hm
    rw[<-h,<-hm]
   ·exact h
  |_=>exact h
theorem ai.og{E:ai}:E.Nil↔E.l=[]:=by
 cases E<;>simp[ai.Nil,ai.l]
def su(ex:List Nat):List (Nat×Nat×Nat)->List (Nat×Nat×Nat)->Bool
 |[],[]=>true
 |(i,b,c)::l,(r,y,z)::m=>ka ex i r&&(bX b y&&(bX c z&&su ex l m))
 |_,_=>false
def o5(ex:List Nat):List iE->List iE->Bool
 |[],[]=>true
 |.ptr i b c::l,.ptr r y z::m=>ka ex i r&&(bX b y&&(bX c z&&o5 ex l m))
 |.fn f ps::l,.fn g qs::m=>bX f g&&(su ex ps qs&&o5 ex l m)
 |_,_=>false
def iM(ex:List Nat)(m:Nat)(R:Rows)(d p:D):Prop:=
 match p with
 |.int k n=>match d with|.int j q=>cv (decide (j=k)) (q=n)|_=>False
 |.bool b=>match d with|.bool a=>a=b|_=>False
 |.str s=>match d with|.str u=>u=s|_=>False
 |.iz=>match d with|.iz=>True|_=>False
 |.jJ=>match d with|.jJ=>True|_=>False
 |.gm f cs=>match d with|.gm g ds=>cv (bX f g&&o5 ex cs ds) True|_=>False
 |.ptr i o f=>match d with|.ptr r o' f'=>cv (ka ex i r&&(bX o o'&&bX f f')) True|_=>False
 |.gq i=>match d with|.iz=>True|.gq r=>cv (ka ex i r) True|.ptr r o f=>cv (ka ex i r&&(bX o 0&&bX f 0)) True|_=>False
 |.c8=>match d with|.c8=>True|_=>False
 |.emp=>match d with|.c8=>True|.emp=>True|_=>False
 |.sl sz es fr=>match d with
  |.c8=>es.Nil
  |.emp=>es.Nil
  |.sl j9 iW fr'=>cv (!fr||fr') ((iW.Nil\/j9=sz)/\ai.Eq iW es)
  |.all r=>match R.getD r none with
   |some ⟨box,_,j9,iW⟩=>cv (!box&&bX j9 sz&&KL ex r&&gH m r) (ai.Eq iW es)
   |none=>False
  |.own r o n=>match R.getD r none with
   |some ⟨box,_,j9,iW⟩=>cv (!box&&bX j9 sz&&KL ex r&&gH m r) (ai.Eq ((iW.drop o).take n) es)
   |none=>False
  |_=>False
 |.all i=>match d with|.all r=>cv (ka ex i r) True|.c8=>cv (IG ex R i) True|.emp=>cv (IG ex R i) True|_=>False
 |.own i o n=>match d with|.own r o' n'=>cv (ka ex i r) (o'=o/\n'=n)|_=>False
 |.dead=>cv d.Hz True
 |_=>False
def DH(ex:List Nat)(m:Nat)(R:Rows):List D->List D->Prop
 |[],[]=>True
 |d::ds,p::ps=>iM ex m R d p/\DH ex m R ds ps
 |_,_=>False
def o6(ex:List Nat)(m:Nat)(R:Rows)(d p:D):Prop:=
 match p with
 |.agg ps=>match d with|.agg ds=>DH ex m R ds ps|_=>False
 |p=>iM ex m R d p
def wu(ex:List Nat)(m:Nat)(R:Rows):List D->List D->Prop
 |[],[]=>True
 |d::ds,p::ps=>o6 ex m R d p/\wu ex m R ds ps
 |_,_=>False
def sr(ex:List Nat)(m:Nat)(R:Rows)(d p:D):Prop:=
 match p with
 |.dw ps=>match d with|.dw ds=>wu ex m R ds ps|_=>False
 |p=>o6 ex m R d p
def lQ(ex:List Nat)(m:Nat)(R:Rows):List Nat->List Row->Prop
 |[],[]=>True
 |r ::rs,⟨box,ty,sz,es⟩::ps=>(match R.getD r none with
  |some ⟨Ai,jV,j9,iW⟩=>cv (Bool.xor (!box) Ai&&bX ty jV&&bX sz j9) (match box with
   |false=>ai.Eq iW es
   |true=>match iW,es with|.gen [e'],.gen [e]=>DH ex m R e' e|_,_=>False)
  |none=>cv (!box&&bN 0 sz) es.Nil)/\lQ ex m R rs ps
 |_,_=>False
def HO(R:Rows)(p d:D):List (Nat×Nat):=
 match p with
 |.all i=>match d with|.all r=>[(i,r)]|_=>[]
 |_=>[]
def HP(R:Rows):List D->List D->List (Nat×Nat)
 |p::ps,d::ds=>HO R p d++HP R ps ds
 |_,_=>[]
def QD(R:Rows)(p d:D):List (Nat×Nat):=
 match p with
 |.agg ps=>match d with|.agg ds=>HP R ps ds|_=>[]
 |p=>HO R p d
def newAt(n0:Nat):List (Nat×Nat)->Nat->Nat
 |[],i=>n0+i
 |(j,r)::l,i=>match bX j i with|true=>r|false=>newAt n0 l i
def news(n0:Nat)(l:List (Nat×Nat)):Nat->Nat->List Nat
 |_,0=>[]
 |i,n+1=>newAt n0 l i::news n0 l (i+1) n
def MM:List Nat->List Nat->Bool
 |[],[]=>true
 |x::l,y::m=>bX x y&&MM l m
 |_,_=>false
def ss(M:Nat)(ex:List Nat):Bool:=(MM (ex.take M) (cW M)&&(ex.drop M).all λr=>gH M r)&&CR (ex.drop M)
def Ak(m:Nat)(res:D)(rows:List Row)(d:D)(R:Rows):Prop:=
 ∃ex,ss m ex=true/\sr ex m R d res/\lQ ex m R ex rows
def FE:List D->Nat->List (Nat×D)
 |[],_=>[]
 |d::ds,i=>(i,d)::FE ds (i+1)
def ko(T:iy)(G:List bb)(L:Code->St->(Ex->St->Prop)->Prop)(fn:Func)(args:List D)(rows:List Row)(Q:D->Rows->Prop):Prop:=
 match fn.body with
 |some c=>o4 T G fn.ntmps rows.length L c ⟨FE args 0,rows.map some⟩ λe st=>match e with
  |.exit _=>False
  |_=>FG T st.rows st.env fn.results.toList λds=>match ds with|[d]=>Q d st.rows|ds=>Q (.dw ds) st.rows
 |none=>False
def oA:List Nat->List D->List (Nat×D)
 |t::ts,d::ds=>(t,d)::oA ts ds
 |_,_=>[]
def Az:List iE->List Nat
 |[]=>[]
 |.fn f _::l=>f::Az l
 |_::l=>Az l
def AA:D->List Nat|.gm f cs=>f::Az cs|_=>[]
def ry:List D->List Nat
 |[]=>[]
 |d::l=>AA d++ry l
def Fq:D->List Nat|.agg cs=>ry cs|d=>AA d
def ow:List D->List Nat
 |[]=>[]
 |d::l=>Fq d++ow l
def CL:D->List Nat|.dw ds=>ow ds|d=>Fq d
def kE:List Row->List Nat
 |[]=>[]
 |⟨true,_,_,.gen [e]⟩::l=>ry e++kE l
 |_::l=>kE l
def Gq:Rows->List Nat
 |[]=>[]
 |some r::l=>kE [r]++Gq l
 |none::l=>Gq l
def pY(l:List Nat):Bool:=l.all λf=>bN f YB
def Ag:List (Nat×D)->List Nat
 |[]=>[]
 |(_,d)::l=>CL d++Ag l
def FI (T:iy)(G:List bb)(L:Code->St->(Ex->St->Prop)->Prop)(fn:Func)(args:List D)(rows:List Row)(Q:D->Rows->Prop)(M:Nat):Prop:=
 match fn.body with
 |some c =>match gH YB fn.nfree with
  |true =>match bX fn.nfree YB with
   |true=>o4 T G fn.ntmps M L c ⟨oA fn.params.toList args,rows.map some⟩ λe st=>match e with
    |.normal=>Q (.bool true) st.rows
    |_=>False
   |false=>match c with
    |.seq a b=>o4 T G fn.ntmps M L a ⟨oA fn.params.toList args,rows.map some⟩ λe st=>match e with
     |.normal=>cv (pY (Ag st.env++Gq st.rows)) (o4 T G fn.ntmps M L b st λe st=>match e with
      |.normal=>Q (.bool true) st.rows
      |_=>False)
     |_=>False
    |_=>False
  |false=>o4 T G fn.ntmps M L c ⟨FE args 0,rows.map some⟩ λe st=>match e with
  |.exit _=>False
  |_=>FG T st.rows st.env fn.results.toList λds=>match ds with|[d]=>Q d st.rows|ds=>Q (.dw ds) st.rows
 |none=>False
