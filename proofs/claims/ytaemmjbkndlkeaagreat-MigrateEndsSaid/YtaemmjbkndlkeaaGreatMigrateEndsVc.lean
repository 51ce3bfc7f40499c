import Derived.Test.YtaemmjbkndlkeaaGreatMigrateEndsFy
open Nat renaming beq->bX,blt->bN,ble->gG
open BitVec renaming ofInt->dR
open List renaming replicate->cO,range->cW
set_option linter.all false
namespace Go.GD
open Go
variable {b:Bool}{p:Prop}
def cu(b:Bool)(p:Prop):Prop:=match b with|true=>p|false=>False
def w7(b:Bool)(p q:Prop):Prop:=match b with|true=>p|false=>q
theorem dd:cu b p↔b=true/\p:=by cases b<;>simp[cu]
theorem Zv{p q:Prop}:w7 b p q↔(b=true->p)/\(b=false->q):=by cases b<;>simp[w7]
abbrev Rows:=List (Option Row)
namespace D
def Ff(n:Nat):D->Bool|.sl m _ _=>bX m n|.c8=>true|.emp=>true|_=>false
def toEs:D->ai|.sl _ es _=>es|_=>.gen []
def uS:D->Bool|.agg _=>false|.dw _=>false|.dead=>false|_=>true
def isVal:D->Bool|.dw _=>false|.dead=>false|_=>true
def Hj:D->Bool|.agg _=>false|.dw _=>false|_=>true
def plain:D->Bool|.bool _=>true|.int _ _=>true|.str _=>true|.iz=>true|.c8=>true|.emp=>true|.sl _ _ _=>true|_=>false
def cells:D->List D|.agg cs=>cs|d=>[d]
def force:D->(D->Prop)->Prop
 |.bool b,K=>K (.bool b)
 |.int k n,K=>K (.int k n)
 |.str s,K=>K (.str s)
 |.sl a b c,K=>K (.sl a b c)
 |.all a,K=>K (.all a)
 |.own a b c,K=>K (.own a b c)
 |.ptr a b c,K=>K (.ptr a b c)
 |.pa a b c d e f,K=>K (.pa a b c d e f)
 |.iu a b c d,K=>K (.iu a b c d)
 |.iz,K=>K .iz
 |.c8,K=>K .c8
 |.emp,K=>K .emp
 |.mO es,K=>K (.mO es)
 |.dead,K=>K .dead
 |.gp a b,K=>K (.gp a b)
 |.gq a,K=>K (.gq a)
 |.jL,K=>K .jL
 |.agg a,K=>K (.agg a)
 |.dw a,K=>K (.dw a)
end D
def D.j5:List D->(List D->Prop)->Prop
 |[],K=>K []
 |d::l,K=>d.force λd=>j5 l λl=>K (d::l)
def tE:Rows->(Rows->Prop)->Prop
 |[],K=>K []
 |d::l,K=>tE l λl=>K (d::l)
inductive se where
 |int (k:IntKind)|bool|str|sl (n:Nat)|other
inductive TK where
 |int (k:IntKind)|bool|string
 |slice (e:TypeId) (n:Nat)
 |struct (fs:List (Nat×TypeId×Nat))
 |array (len:Nat) (e:TypeId) (n:Nat)
 |other
structure TI where
 kind:TK
 size:Nat
 bytes:Nat
 sI:List se
 zero:Option (List D)
 eq:Bool
abbrev iy:=List (TypeId×TI)
def iy.get:iy->TypeId->Option TI
 |[],_=>none
 |(u,i)::l,t=>match bX u t with|true=>some i|false=>iy.get l t
def TK.isAgg:TK->Bool|.struct _=>true|.array _ _ _=>true|_=>false
def uA(pl:Bool):se->D->(D->Prop)->Prop
 |.int k,c,K=>cu (c.isInt k) (K (.int k c.toInt))
 |.bool,c,K=>cu c.isBool (K (.bool c.toBool))
 |.str,c,K=>cu c.isStr (K (.str c.toStr))
 |.sl n,c,K=>match pl with
  |true=>cu (c.Ff n) (K (.sl n c.toEs false))
  |false=>cu c.uS (c.force K)
 |.other,c,K=>match pl with
  |true=>match c with|.iz=>K .iz|_=>False
  |false=>cu c.uS (c.force K)
def DV(pl:Bool)(e:List D):List se->Nat->(List D->Prop)->Prop
 |[],_,K=>K []
 |t::ts,off,K=>uA pl t (e.getD off .dead) λd=>DV pl e ts (off+1) λds=>K (d::ds)
def uB(pl:Bool)(t:TI)(e:List D)(off:Nat)(K:D->Prop):Prop:=
 match t.kind.isAgg with
 |true=>DV pl e t.sI off λds=>K (.agg ds)
 |false=>match t.sI with
  |[y]=>uA pl y (e.getD off .dead) K
  |_=>False
def kR:List D->Nat->List D->List D
 |e,_,[]=>e
 |e,off,v::vs=>kR (e.set off v) (off+1) vs
def P1:Value->Option D
 |.bool b=>some (.bool b)
 |.int k n=>some (.int k n)
 |.string s=>some (.str s.data.toList)
 |.slice none 0 0=>some .c8
 |.pointer none=>some .iz
 |.nilIface=>some .jL
 |.nilFunc=>some .dead
 |_=>none
def Bg:List Value->Option (List D)
 |[]=>some []
 |v::vs=>match P1 v,Bg vs with|some d,some ds=>some (d::ds)|_,_=>none
def FT:Value->Option D
 |.agg cs=>(Bg cs.toList).map .agg
 |v=>P1 v
structure St where
 env:List (Nat×D)
 rows:Rows
def look:List (Nat×D)->Nat->D
 |[],_=>.dead
 |(u,d)::l,t=>match bX u t with|true=>d|false=>look l t
def cq(env:List (Nat×D)):Operand->D
 |.tmp t=>look env t
 |.const v=>(FT v).getD .dead
 |.func f=>match bN f YB with|true=>.gp f []|false=>.dead
 |_=>.dead
def bb(k:IntKind)(x y:Int):Int:=k.wrap (dR k.bits x&&&dR k.bits y).toNat
def iM(k:IntKind)(x y:Int):Int:=k.wrap (dR k.bits x|||dR k.bits y).toNat
def rD(k:IntKind)(x y:Int):Int:=k.wrap (dR k.bits x^^^dR k.bits y).toNat
def oJ(k:IntKind)(x y:Int):Int:=k.wrap (dR k.bits x&&&~~~dR k.bits y).toNat
def eu(k:IntKind)(x y:Int):Int:=k.wrap (x*2^(min y.toNat k.bits))
def bc(k:IntKind)(x y:Int):Int:=x.fdiv (2^(min y.toNat k.bits))
def UQ(op:BinOp)(k:IntKind)(x y:Int)(K:D->Prop):Prop:=
 match op with
 |.add=>K (.int k (k.wrap (x+y)))
 |.sub=>K (.int k (k.wrap (x-y)))
 |.mul=>K (.int k (k.wrap (x*y)))
 |.quo=>cu (decide (y≠0)) (K (.int k (k.wrap (x.tdiv y))))
 |.rem=>cu (decide (y≠0)) (K (.int k (x.tmod y)))
 |.and=>K (.int k (bb k x y))
 |.or=>K (.int k (iM k x y))
 |.xor=>K (.int k (rD k x y))
 |.andNot=>K (.int k (oJ k x y))
 |.eql=>K (.bool (x==y))
 |.neq=>K (.bool (x !=y))
 |.lss=>K (.bool (decide (x<y)))
 |.leq=>K (.bool (decide (x<=y)))
 |.gtr=>K (.bool (decide (x>y)))
 |.geq=>K (.bool (decide (x>=y)))
 |_=>False
def Ps:D->D->Bool
 |.int _ a,.int _ b=>a==b
 |.bool a,.bool b=>a==b
 |.str a,.str b=>decide (a=b)
 |_,_=>false
def eqs:List D->List D->Bool
 |[],_=>true
 |a::l,b::m=>Ps a b&&eqs l m
 |_::_,[]=>false
def fits:List se->List D->Bool
 |[],[]=>true
 |.int k::t,d::l=>d.isInt k&&fits t l
 |.bool::t,d::l=>d.isBool&&fits t l
 |.str::t,d::l=>d.isStr&&fits t l
 |_,_=>false
def sJ(T:iy)(op:BinOp)(t:TypeId)(x y:D)(K:D->Prop):Prop:=
 match x,y with
 |.int k a,.int k' b=>
  match op with
  |.shl=>cu (decide (0<=b)) (K (.int k (eu k a b)))
  |.shr=>cu (decide (0<=b)) (K (.int k (bc k a b)))
  |op=>cu (decide (k=k')) (UQ op k a b K)
 |.str a,.str b=>
  match op with
  |.add=>cu (decide (a.length+b.length<=maxLen)) (K (.str (a++b)))
  |.eql=>K (.bool (decide (a=b)))
  |.neq=>K (.bool (!decide (a=b)))
  |_=>False
 |.bool a,.bool b=>
  match T.get t with
  |some ⟨.bool,_,_,_,_,_⟩=>match op with
   |.eql=>K (.bool (a==b))
   |.neq=>K (.bool (!(a==b)))
   |_=>False
  |_=>False
 |.agg a,.agg b=>
  match T.get t with
  |some ti=>cu (ti.kind.isAgg&&bN 0 ti.size&&ti.eq&&fits ti.sI a&&fits ti.sI b)<|
   match op with
   |.eql=>K (.bool (eqs a b))
   |.neq=>K (.bool (!(eqs a b)))
   |_=>False
  |none=>False
 |_,_=>False
def Md(T:iy)(s d:TypeId)(x:D)(K:D->Prop):Prop:=
 match T.get s,T.get d with
 |some ⟨.int _,_,_,_,_,_⟩,some ⟨.int k,_,_,_,_,_⟩=>match x with
  |.int _ n=>K (.int k (k.wrap n))
  |_=>False
 |some ⟨.string,_,_,_,_,_⟩,some ⟨.string,_,_,_,_,_⟩=>match x with
  |.str s=>K (.str s)
  |_=>False
 |_,_=>False
def PZ(T:iy)(s:TypeId)(f:Nat):Option (Nat×TypeId×Nat):=
 match T.get s with
 |some ⟨.struct fs,_,_,_,_,_⟩=>fs[f]?
 |_=>none
def Fm(place:Nat->Option (Nat×Nat))(ev:Operand->D):List (Nat×Operand)->List D->(List D->Prop)->Prop
 |[],cs,K=>D.j5 cs K
 |(i,x)::ps,cs,K=>match place i with
  |some (off,n)=>cu ((ev x).isVal&&bX (ev x).cells.length n&&gG (off+n) cs.length) (Fm place ev ps (kR cs off (ev x).cells) K)
  |none=>False
def D.P7:D->D|.sl a b _=>.sl a b false|d=>d
def Hf:List D->List D
 |[]=>[]
 |d::l=>d.P7::Hf l
def Fp(n len:Nat)(ev:Operand->D):List (Nat×Operand)->List (List D)->(List (List D)->Prop)->Prop
 |[],es,K=>K es
 |(i,x)::ps,es,K=>cu (((ev x).isVal&&(Hf (ev x).cells).all D.plain)&&bX (Hf (ev x).cells).length n&&bN i len) (Fp n len ev ps (es.set i (Hf (ev x).cells)) K)
def wF(row:Row):Rows->Nat->(Nat->Rows->Prop)->Prop
 |[],n,K=>K n [some row]
 |x::l,n,K=>wF row l (n+1) λk l=>K k (x::l)
def uz(R:Rows)(row:Row)(K:Nat->Rows->Prop):Prop:=wF row R 0 K
def ints(e:List D)(off:Nat):Nat->List Int
 |0=>[]
 |n+1=>(e.getD off .dead).toInt::ints e (off+1) n
def ag(e:List D)(off:Nat):Nat->List Bool
 |0=>[]
 |n+1=>(e.getD off .dead).toBool::ag e (off+1) n
def CE(k:IntKind)(e:List D)(off:Nat):Nat->Bool
 |0=>true
 |n+1=>(e.getD off .dead).isInt k&&CE k e (off+1) n
def G5(e:List D)(off:Nat):Nat->Bool
 |0=>true
 |n+1=>(e.getD off .dead).isBool&&G5 e (off+1) n
def Hc(k:IntKind)(l:List Int)(j:Nat):Nat->List D
 |0=>[]
 |n+1=>.int k (l.getD j 0)::Hc k l (j+1) n
def Hd(l:List Bool)(j:Nat):Nat->List D
 |0=>[]
 |n+1=>.bool (l.getD j false)::Hd l (j+1) n
def wH(T:iy)(t:TypeId)(x:D)(R:Rows)(K:D->Rows->Prop):Prop:=
 match T.get t with
 |none=>False
 |some ti=>match x with
  |.ptr r i off=>match R.getD r none with
   |some ⟨box,_,sz,es⟩=>cu (gG (off+ti.size) sz) (uB (!box) ti (es.get i) off λd=>K d R)
   |none=>False
  |.pa r i off len k n=>match R.getD r none with
   |some ⟨_,_,sz,es⟩=>cu (gG (off+len) sz)<|match ti.kind,k with
    |.int j,some k=>cu (decide (j=k)&&CE k (es.get i) off len) (K (.int k ((ints (es.get i) off len).getD n 0)) R)
    |.bool,none=>cu (G5 (es.get i) off len) (K (.bool ((ag (es.get i) off len).getD n false)) R)
    |_,_=>False
   |none=>False
  |.iu sz es i off=>cu (gG (off+ti.size) sz) (uB true ti (es.get i) off λd=>K d R)
  |_=>False
def He(T:iy)(t:TypeId)(x d:D)(R:Rows)(K:D->Rows->Prop):Prop:=
 match T.get t with
 |none=>False
 |some ti=>match x with
  |.ptr r i off=>match R.getD r none with
   |some ⟨box,ty,sz,es⟩=>cu (bN 0 ti.size&&d.isVal&&bX d.cells.length ti.size&&gG (off+ti.size) sz)<|match box with
    |true=>D.j5 (kR (es.get i) off d.cells) λe=>tE (R.set r (some ⟨true,ty,sz,.gen [e]⟩)) λR=>K .dead R
    |false=>cu (d.cells.all D.plain) (tE (R.set r (some ⟨false,ty,sz,es.set i (kR (es.get i) off d.cells)⟩)) λR=>K .dead R)
   |none=>False
  |.pa r i off len k n=>match R.getD r none with
   |some ⟨box,ty,sz,es⟩=>cu (box&&gG (off+len) sz)<|match ti.kind,k,d with
    |.int j,some k,.int k' v=>cu (decide (j=k)&&decide (k'=k)&&CE k (es.get i) off len)<|
     D.j5 (kR (es.get i) off (Hc k ((ints (es.get i) off len).set n v) 0 len)) λe=>tE (R.set r (some ⟨true,ty,sz,.gen [e]⟩)) λR=>K .dead R
    |.bool,none,.bool v=>cu (G5 (es.get i) off len)<|
     D.j5 (kR (es.get i) off (Hd ((ag (es.get i) off len).set n v) 0 len)) λe=>tE (R.set r (some ⟨true,ty,sz,.gen [e]⟩)) λR=>K .dead R
    |_,_,_=>False
   |none=>False
  |_=>False
def US(T:iy)(t:TypeId)(x:D)(UR:Bool)(n:Int)(R:Rows)(K:D->Rows->Prop):Prop:=
 match T.get t with
 |some ⟨.slice _ iI,_,_,_,_,_⟩=>match x with
  |.sl sz es _=>cu (bX sz iI&&bN 0 iI&&decide (0<=n/\n<es.len)) (K (.iu sz es n.toNat 0) R)
  |.own r o m=>match R.getD r none with
   |some ⟨_,_,sz,_⟩=>cu (bX sz iI&&bN 0 iI&&decide (0<=n/\n<m)) (K (.ptr r (o+n.toNat) 0) R)
   |none=>False
  |.all r=>match R.getD r none with
   |some ⟨_,_,sz,es⟩=>cu (bX sz iI&&bN 0 iI&&decide (0<=n/\n<es.len)) (K (.ptr r n.toNat 0) R)
   |none=>False
  |_=>False
 |some ⟨.array len e iI,_,_,_,_,_⟩=>cu (bN 0 iI&&decide (0<=n/\n<len))<|match x with
  |.ptr r i off=>match UR with
   |true=>K (.ptr r i (off+n.toNat*iI)) R
   |false=>match T.get e with
    |some ⟨.int k,_,_,_,_,_⟩=>cu (bX iI 1) (K (.pa r i off len (some k) n.toNat) R)
    |some ⟨.bool,_,_,_,_,_⟩=>cu (bX iI 1) (K (.pa r i off len none n.toNat) R)
    |_=>K (.ptr r i (off+n.toNat*iI)) R
  |.iu sz es i off=>K (.iu sz es i (off+n.toNat*iI)) R
  |_=>False
 |_=>False
def rQ(x:Option Operand)(ev:Operand->D)(n:Int):Option Int:=match x with|none=>some n|some y=>match ev y with|.int _ m=>some m|_=>none
def Me(T:iy)(t:TypeId)(x:D)(lo hi:Option Operand)(ev:Operand->D)(R:Rows)(K:D->Rows->Prop):Prop:=
 match T.get t with
 |some ⟨.string,_,_,_,_,_⟩=>match x with
  |.str s=>match rQ lo ev 0,rQ hi ev s.length with
   |some l,some h=>cu (decide (0<=l/\l<=h/\h<=s.length)) (K (.str ((s.drop l.toNat).take (h.toNat-l.toNat))) R)
   |_,_=>False
  |_=>False
 |some ⟨.slice _ iI,_,_,_,_,_⟩=>match x with
  |.sl sz es fr=>match rQ lo ev 0,rQ hi ev es.len with
   |some l,some h=>cu (bX sz iI&&bN 0 iI&&decide (0<=l/\l<=h/\h<=es.len)) (K (.sl sz ((es.drop l.toNat).take (h.toNat-l.toNat)) fr) R)
   |_,_=>False
  |.all r=>match R.getD r none with
   |some ⟨_,_,sz,es⟩=>match rQ lo ev 0,rQ hi ev es.len with
    |some l,some h=>cu (bX sz iI&&bN 0 iI&&decide (0<=l/\l<=h/\h<=es.len)) (K (.own r l.toNat (h.toNat-l.toNat)) R)
    |_,_=>False
   |none=>False
  |.own r o n=>match R.getD r none with
   |some ⟨_,_,sz,_⟩=>match rQ lo ev 0,rQ hi ev n with
    |some l,some h=>cu (bX sz iI&&bN 0 iI&&decide (0<=l/\l<=h/\h<=n)) (K (.own r (o+l.toNat) (h.toNat-l.toNat)) R)
    |_,_=>False
   |none=>False
  |_=>False
 |some ⟨.array len e iI,_,_,_,_,_⟩=>match x,lo,hi with
  |.iu sz es i off,none,none=>match T.get e with
   |some ⟨.int k,_,_,_,_,_⟩=>cu (bX iI 1&&(gG (off+len) sz&&CE k (es.get i) off len)) (K (.sl 1 (.ints k (ints (es.get i) off len)) false) R)
   |_=>False
  |_,_,_=>False
 |_=>False
def uF(T:iy)(t:TypeId)(n m:Int)(R:Rows)(K:D->Rows->Prop):Prop:=
 match T.get t with
 |some ⟨.slice e _,_,_,_,_,_⟩=>match T.get e with
  |some ⟨_,sz,lz,_,some z,_⟩=>cu (bN 0 sz&&bX z.length sz&&z.all D.plain&&decide (0<=n/\n<=m/\m<=9223372036854775807/\(lz:Int)*m<=140737488355328))
   (uz R ⟨false,e,sz,ai.Fo e n.toNat z⟩ λk R=>K (.all k) R)
  |_=>False
 |_=>False
def sO(T:iy)(t:TypeId)(x:D)(R:Rows)(K:D->Rows->Prop):Prop:=
 match T.get t with
 |some ⟨.string,_,_,_,_,_⟩=>match x with
  |.str s=>K (.int .i64 s.length) R
  |_=>False
 |some ⟨.slice _ _,_,_,_,_,_⟩=>match x with
  |.sl _ es _=>K (.int .i64 es.len) R
  |.own _ _ n=>K (.int .i64 n) R
  |.all r=>match R.getD r none with
   |some ⟨_,_,_,es⟩=>K (.int .i64 es.len) R
   |none=>False
  |.c8=>K (.int .i64 0) R
  |.emp=>K (.int .i64 0) R
  |_=>False
 |_=>False
def Mf(T:iy)(t:TypeId)(parts:List (Nat×Operand))(ev:Operand->D)(R:Rows)(K:D->Rows->Prop):Prop:=
 match T.get t with
 |some ⟨.struct fs,_,_,_,some ds,_⟩=>cu (fs.all λf=>bN 0 f.2.2)<|Fm (λi=>(fs[i]?).map λf=>(f.1,f.2.2)) ev parts ds λcs=>K (.agg cs) R
 |some ⟨.array _ _ iI,_,_,_,some ds,_⟩=>cu (bN 0 iI)<|Fm (λi=>some (i*iI,iI)) ev parts ds λcs=>K (.agg cs) R
 |_=>False
def Mg(T:iy)(t:TypeId)(len:Nat)(parts:List (Nat×Operand))(ev:Operand->D)(R:Rows)(K:D->Rows->Prop):Prop:=
 match T.get t with
 |some ⟨.slice e _,_,_,_,_,_⟩=>match T.get e with
  |some ⟨_,sz,_,_,some z,_⟩=>cu (bN 0 sz&&bX z.length sz&&gG (len*sz) 16777216&&z.all D.plain)<|
   Fp sz len ev parts (cO len z) λes=>match len with|0=>K .emp R|_+1=>K (.sl sz (ai.P9 e es) true) R
  |_=>False
 |_=>False
def UJ(t:TypeId)(len:Nat):Bool:=gG 2 len&&Fy.any λq=>bX q t
def ZT(T:iy)(t:TypeId)(len:Nat)(parts:List (Nat×Operand))(ev:Operand->D)(R:Rows)(K:D->Rows->Prop):Prop:=
 match T.get t with
 |some ⟨.slice e _,_,_,_,_,_⟩=>match T.get e with
  |some ⟨_,sz,_,_,some z,_⟩=>cu (bN 0 sz&&bX z.length sz&&gG (len*sz) 16777216&&z.all D.plain)<|
   Fp sz len ev parts (cO len z) λes=>uz R ⟨false,e,sz,ai.P9 e es⟩ λk R=>K (.all k) R
  |_=>False
 |_=>False
def Hq(T:iy)(t:TypeId)(len:Nat)(parts:List (Nat×Operand))(ev:Operand->D)(R:Rows)(K:D->Rows->Prop):Prop:=
 w7 (UJ t len) (ZT T t len parts ev R K) (Mg T t len parts ev R K)
def G6:iD->Option (Nat×Nat×Nat)|.ptr r i off=>some (r,i,off)|_=>none
def PQ:List iD->Option (List (Nat×Nat×Nat))
 |[]=>some []
 |x::l=>match G6 x,PQ l with|some p,some ps=>some (p::ps)|_,_=>none
def CG:D->Option iD
 |.ptr r i off=>some (.ptr r i off)
 |.int k n=>some (.int k n)
 |.all r=>some (.arr r)
 |.sl a b fr=>some (.sl a b fr)
 |.gp f cs=>match PQ cs with|some ps=>some (.fn f ps)|none=>none
 |_=>none
def Zd:List D->Option (List iD)
 |[]=>some []
 |d::l=>match CG d,Zd l with|some x,some xs=>some (x::xs)|_,_=>none
def gr(T:iy)(o:Op)(ev:Operand->D)(R:Rows)(K:D->Rows->Prop):Prop:=
 match o with
 |.move x|.assign x=>(ev x).force λd=>K d R
 |.alloc t=>match T.get t with
  |some ⟨_,sz,_,_,some ds,_⟩=>cu (bN 0 sz&&bX ds.length sz) (uz R ⟨true,t,sz,.gen [ds]⟩ λk R=>K (.ptr k 0 0) R)
  |_=>False
 |.box t x=>match T.get t with
  |some ⟨_,sz,_,_,_,_⟩=>cu (bN 0 sz&&(ev x).isVal&&bX (ev x).cells.length sz) (D.j5 (ev x).cells λcs=>uz R ⟨true,t,sz,.gen [cs]⟩ λk R=>K (.ptr k 0 0) R)
  |none=>False
 |.build t parts=>Mf T t parts.toList ev R K
 |.buildSlice t len parts=>Hq T t len parts.toList ev R K
 |.load t a=>wH T t (ev a) R K
 |.store t a x=>He T t (ev a) (ev x) R K
 |.nilCheck x=>match ev x with
  |.ptr a b c=>K (.ptr a b c) R
  |.iu a b c d=>K (.iu a b c d) R
  |_=>False
 |.binOp op t x y _=>sJ T op t (ev x) (ev y) λd=>K d R
 |.unOp op _ x=>match op,ev x with
  |.neg,.int k n=>K (.int k (k.wrap (0-n))) R
  |.xor,.int k n=>K (.int k (rD k (if k.signed then-1 else k.max) n)) R
  |.not,.bool b=>K (.bool (!b)) R
  |_,_=>False
 |.convert s d x=>Md T s d (ev x) λv=>K v R
 |.fieldAddr s x f=>match PZ T s f with
  |some (o,_,n)=>cu (bN 0 n)<|match ev x with
   |.ptr r i off=>K (.ptr r i (off+o)) R
   |.iu sz es i off=>K (.iu sz es i (off+o)) R
   |_=>False
  |none=>False
 |.field s x f=>match PZ T s f with
  |some (o,t,n)=>match ev x,T.get t with
   |.agg cs,some ti=>cu (bN 0 n&&gG (o+n) cs.length)<|match ti.kind.isAgg with
    |true=>D.j5 ((cs.drop o).take n) λl=>K (.agg l) R
    |false=>cu (cs.getD o .dead).uS ((cs.getD o .dead).force λd=>K d R)
   |_,_=>False
  |none=>False
 |.indexAddr t x ix=>match ev ix with
  |.int _ n=>US T t (ev x) (match ix with|.const _=>true|_=>false) n R K
  |_=>False
 |.index t x ix=>match T.get t,ev x,ev ix with
  |some ⟨.string,_,_,_,_,_⟩,.str s,.int _ n=>cu (decide (0<=n/\n<s.length)) (K (.int .u8 ((s.getD n.toNat 0).toNat:Int)) R)
  |some ⟨.array len e iI,_,_,_,_,_⟩,.agg cs,.int _ n=>cu (bX iI 1&&(bX cs.length len&&decide (0<=n/\n<len)))<|match T.get e with
   |some ⟨.int k,_,_,_,_,_⟩=>cu (CE k cs 0 len) (K (.int k ((ints cs 0 len).getD n.toNat 0)) R)
   |some ⟨.bool,_,_,_,_,_⟩=>cu (G5 cs 0 len) (K (.bool ((ag cs 0 len).getD n.toNat false)) R)
   |_=>False
  |_,_,_=>False
 |.extract x i=>match ev x with
  |.dw ds=>cu (ds.getD i .dead).isVal ((ds.getD i .dead).force λd=>K d R)
  |_=>False
 |.slice t x lo hi none=>Me T t (ev x) lo hi ev R K
 |.makeSlice t l c=>match ev l,ev c with
  |.int _ n,.int _ m=>uF T t n m R K
  |_,_=>False
 |.call {callee:=.builtin .len,args,argTypes}=>match args.toList,argTypes.toList with
  |[x],[t]=>sO T t (ev x) R K
  |_,_=>False
 |.makeFunc fn first captured=>match fn with
  |.func f=>cu (bX first.size 0&&bN f YB)<|match Zd (captured.toList.map ev)with
   |some cs=>K (.gp f cs) R
   |none=>False
  |_=>False
 |_=>False
def pos(r:Nat):List Nat->Nat->Nat
 |[],k=>k
 |x::l,k=>match bX x r with|true=>k|false=>pos r l (k+1)
def da(r:Nat):List Nat->Bool
 |[]=>false
 |x::l=>match bX x r with|true=>true|false=>da r l
def px:List Nat->List Nat->Bool
 |[],_=>true
 |x::l,m=>match da x m with|true=>px l m|false=>false
def pq:List Nat->List Nat->Bool
 |[],_=>true
 |x::l,m=>match da x m with|true=>false|false=>pq l m
def lq:List Nat->List Nat->List Nat
 |ids,[]=>ids
 |ids,x::l=>match da x ids with|true=>lq ids l|false=>lq (ids++[x]) l
def CI:List Nat->Bool
 |[]=>true
 |x::l=>match da x l with|true=>false|false=>CI l
def CB:iD->List Nat|.ptr r _ _=>[r]|.arr r=>[r]|.fn _ ps=>ps.map (·.1)|_=>[]
def rp:List iD->List Nat
 |[]=>[]
 |x::l=>CB x++rp l
def iD.jg(f:Nat->Nat)(dv:Bool):iD->iD
 |.ptr r i off=>.ptr (f r) i off
 |.int k n=>.int k n
 |.arr r=>.arr (f r)
 |.sl a b fr=>.sl a b (fr&&dv)
 |.fn g ps=>.fn g (ps.map λp=>(f p.1,p.2))
def nJ:D->List Nat|.gp _ cs=>rp cs|.gq r=>[r]|.all r=>[r]|.own r _ _=>[r]|.ptr r _ _=>[r]|.pa r _ _ _ _ _=>[r]|_=>[]
def pQ:List D->List Nat
 |[]=>[]
 |d::l=>nJ d++pQ l
def Fc:D->List Nat|.agg cs=>pQ cs|d=>nJ d
def D.fc(ks:List Nat):D->D
 |.all r=>match da r ks with|true=>.dead|false=>.all r
 |.own r o n=>match da r ks with|true=>.dead|false=>.own r o n
 |.ptr r i off=>match da r ks with|true=>.dead|false=>.ptr r i off
 |.pa r i off l k n=>match da r ks with|true=>.dead|false=>.pa r i off l k n
 |.gq r=>match da r ks with|true=>.dead|false=>.gq r
 |.gp f cs=>match pq (rp cs) ks with|true=>.gp f cs|false=>.dead
 |d=>d
def D.ji(ks:List Nat):List D->List D
 |[]=>[]
 |d::l=>d.fc ks::ji ks l
def D.kill(ks:List Nat):D->D
 |.agg cs=>.agg (D.ji ks cs)
 |d=>d.fc ks
def D.pJ(ks:List Nat):List D->List D
 |[]=>[]
 |d::l=>d.kill ks::pJ ks l
def D.j4(ks:List Nat):D->D
 |.dw ds=>.dw (D.pJ ks ds)
 |d=>d.kill ks
def Row.kill(ks:List Nat):Row->Row
 |⟨true,ty,sz,.gen [e]⟩=>⟨true,ty,sz,.gen [D.ji ks e]⟩
 |r=>r
def rO(ks:List Nat):Rows->Nat->Rows
 |[],_=>[]
 |x::l,i=>(match da i ks with|true=>none|false=>match x with|some row=>some (row.kill ks)|none=>none)::rO ks l (i+1)
def Ge(ks:List Nat):List (Nat×D)->(List (Nat×D)->Prop)->Prop
 |[],K=>K []
 |(t,d)::l,K=>(d.j4 ks).force λd=>Ge ks l λl=>K ((t,d)::l)
def o8(s:List UInt8):List Int:=s.map λb=>(b.toNat:Int)
def bytesOf(l:List Int):List UInt8:=l.map λn=>UInt8.ofNat n.toNat
def si(R:Rows):D->Option (Nat×ai)
 |.c8=>some (0,.gen [])
 |.emp=>some (0,.gen [])
 |.sl sz es _=>some (sz,es)
 |.all r=>match R.getD r none with|some ⟨false,_,sz,es⟩=>some (sz,es)|_=>none
 |.own r o n=>match R.getD r none with|some ⟨false,_,sz,es⟩=>some (sz,(es.drop o).take n)|_=>none
 |_=>none
def Cs(R:Rows)(ke kx:TK)(y:D):Option (Nat×ai):=
 match kx with
 |.slice _ _=>si R y
 |.string=>match ke,y with
  |.int .u8,.str s=>some (1,.ints .u8 (o8 s))
  |_,_=>none
 |_=>none
def H9:ai->Bool|.gen []=>true|_=>false
def Cv(e sz lz:Nat)(R:Rows)(ks:List Nat)(es ys:ai)(K:List Nat->D->Rows->Prop):Prop:=
 cu (decide (lz*(es.len+ys.len)<=140737488355328))<|tE (rO ks R 0++[some ⟨false,e,sz,es.app ys⟩]) λR'=>K ks (.all R.length) R'
def LZ (T:iy)(M:Nat)(t tx:TypeId)(x y:D)(R:Rows)(K:List Nat->D->Rows->Prop):Prop:=
 match T.get t with
 |some ⟨.slice e iI,_,_,_,_,_⟩=>match T.get e,T.get tx with
  |some ⟨ke,sz,lz,_,some z,_⟩,some ⟨kx,_,_,_,_,_⟩=>match Cs R ke kx y with
   |some (sy,ys)=>cu ((bN 0 sz&&bX iI sz)&&(bX z.length sz&&z.all D.plain)&&(bN 0 lz&&(bX sy sz||H9 ys)))<|
    match x with
    |.c8=>Cv e sz lz R [] (.gen []) ys K
    |.emp=>Cv e sz lz R [] (.gen []) ys K
    |.all r=>match R.getD r none with
     |some ⟨false,ty,s,es⟩=>cu ((bX s sz&&bX ty e)&&gG M r) (Cv e sz lz R [r] es ys K)
     |_=>False
    |.own r o n=>match R.getD r none with
     |some ⟨false,ty,s,es⟩=>cu ((bX s sz&&bX ty e)&&(gG M r&&bX o 0)) (Cv e sz lz R [r] (es.take n) ys K)
     |_=>False
    |_=>False
   |none=>False
  |_,_=>False
 |_=>False
def tQ(T:iy)(t tx:TypeId)(x y:D)(R:Rows)(K:D->Rows->Prop):Prop:=
 match T.get t with
 |some ⟨.slice e iI,_,_,_,_,_⟩=>match T.get e,T.get tx with
  |some ⟨ke,sz,_,_,_,_⟩,some ⟨kx,_,_,_,_,_⟩=>match Cs R ke kx y with
   |some (sy,ys)=>cu ((bN 0 sz&&bX iI sz)&&(bX sy sz||H9 ys))<|
    match x with
    |.all r=>match R.getD r none with
     |some ⟨false,ty,s,es⟩=>cu (bX s sz)<|tE (R.set r (some ⟨false,ty,s,(ys.take (min ys.len es.len)).app (es.drop (min ys.len es.len))⟩)) λR'=>K (.int .i64 (min ys.len es.len:Nat)) R'
     |_=>False
    |.own r o n=>match R.getD r none with
     |some ⟨false,ty,s,es⟩=>cu (bX s sz)<|tE (R.set r (some ⟨false,ty,s,((es.take o).app (ys.take (min ys.len n))).app (es.drop (o+min ys.len n))⟩)) λR'=>K (.int .i64 (min ys.len n:Nat)) R'
     |_=>False
    |_=>False
   |none=>False
  |_,_=>False
 |_=>False
inductive Ans where
 |no
 |ok (res:D) (rows:List Row)
 |when (p:Prop) (res:D) (rows:List Row)
 |abs (α:Type) (v:α) (res:α->D) (rows:α->List Row)
 |lr (p:Prop) (α:Type) (v:α) (res:α->D) (rows:α->List Row)
structure bd where
 f:FuncId
 refs:List Bool
 flat:Bool
 m:List D->List Row->Ans
 gone:Option Nat
 oZ:Bool
def oF:List bd->FuncId->Option bd
 |[],_=>none
 |x::l,f=>match bX x.f f with|true=>some x|false=>oF l f
def Fb(R:Rows):D->Option D
 |.bool b=>some (.bool b)
 |.int k n=>some (.int k n)
 |.str s=>some (.str s)
 |.iz=>some .iz
 |.jL=>some .jL
 |.c8=>some (.sl 0 (.gen []) false)
 |.emp=>some (.sl 0 (.gen []) false)
 |.sl a b _=>some (.sl a b false)
 |.all r=>match R.getD r none with|some row=>(match row.box with|false=>some (.sl row.sz row.es false)|true=>none)|none=>none
 |.own r o n=>match R.getD r none with|some row=>(match row.box with|false=>some (.sl row.sz ((row.es.drop o).take n) false)|true=>none)|none=>none
 |_=>none
def Jd(R:Rows):List D->Option (List D)
 |[]=>some []
 |d::ds=>match Fb R d,Jd R ds with|some x,some xs=>some (x::xs)|_,_=>none
def conv(R:Rows):D->Option D
 |.agg cs=>(Jd R cs).map .agg
 |d=>Fb R d
def D.mw(f:Nat->Nat)(dv:Bool):D->D
 |.all r=>.all (f r)
 |.own r o n=>.own (f r) o n
 |.ptr r i off=>.ptr (f r) i off
 |.pa r i off l k n=>.pa (f r) i off l k n
 |.sl a b fr=>.sl a b (fr&&dv)
 |.gp g cs=>.gp g (cs.map (iD.jg f dv))
 |.gq r=>.gq (f r)
 |d=>d
def D.my(f:Nat->Nat)(dv:Bool):List D->List D
 |[]=>[]
 |d::l=>d.mw f dv::my f dv l
def D.jg(f:Nat->Nat)(dv:Bool):D->D
 |.agg cs=>.agg (D.my f dv cs)
 |d=>d.mw f dv
def D.Aw(f:Nat->Nat)(dv:Bool):List D->List D
 |[]=>[]
 |d::l=>d.jg f dv::Aw f dv l
def D.sL(f:Nat->Nat)(dv:Bool):D->D
 |.dw ds=>.dw (D.Aw f dv ds)
 |d=>d.jg f dv
def Row.jg(f:Nat->Nat)(dv:Bool):Row->Row
 |⟨true,ty,sz,.gen [e]⟩=>⟨true,ty,sz,.gen [D.my f dv e]⟩
 |r=>r
def CA(R:Rows):List Nat->List Nat
 |[]=>[]
 |r::l=>(match R.getD r none with|some ⟨true,_,_,.gen [e]⟩=>pQ e|_=>[])++CA R l
def CJ:List Bool->List D->List Nat
 |true::bs,d::ds=>Fc d++CJ bs ds
 |false::bs,_::ds=>CJ bs ds
 |_,_=>[]
def lH:List Bool->List D->List Nat
 |true::bs,_::ds=>lH bs ds
 |false::bs,d::ds=>Fc d++lH bs ds
 |[],d::ds=>Fc d++lH [] ds
 |_,[]=>[]
def mu(R:Rows)(bs:List Bool)(args:List D):List Nat:=
 let a:=lq [] (CJ bs args)
 let b:=lq a (CA R a)
 lq b (CA R b)
def Bd(R:Rows)(f:Nat->Nat):List Nat->Option (List Row)
 |[]=>some []
 |r::l=>match R.getD r none,Bd R f l with
  |some row,some rs=>some (row.jg f false::rs)
  |_,_=>none
def sH(R:Rows)(f:Nat->Nat):List Bool->List D->Option (List D)
 |true::bs,d::ds=>match d.isVal,sH R f bs ds with|true,some xs=>some (d.jg f false::xs)|_,_=>none
 |false::bs,d::ds=>match conv R d,sH R f bs ds with|some x,some xs=>some (x::xs)|_,_=>none
 |[],d::ds=>match conv R d,sH R f [] ds with|some x,some xs=>some (x::xs)|_,_=>none
 |_,[]=>some []
def bk(ids:List Nat)(n0 i:Nat):Nat:=match ids[i]? with|some r=>r|none=>n0+(i-ids.length)
def tF(f:Nat->Nat):List Nat->List Row->Rows->Rows
 |r::ids,row::rows,R=>tF f ids rows (R.set r (some (row.jg f true)))
 |_,_,R=>R
def Bh(f:Nat->Nat)(rows:List Row):Rows:=rows.map λrow=>some (row.jg f true)
inductive Ex where
 |normal|exit (id:Nat)|ret
def St.put(N:Nat)(st:St)(dst:Option Tmp)(d:D)(R:Rows)(K:St->Prop):Prop:=
 match dst with
 |none=>K ⟨st.env,R⟩
 |some t=>cu (bN t N) (K ⟨(t,d)::st.env,R⟩)
def St.jX(st:St)(c:Operand)(b:Bool):St:=
 match c with
 |.tmp t=>⟨(t,.bool b)::st.env,st.rows⟩
 |_=>st
def DX(R:Rows)(ids:List Nat)(res:D)(aj:List Row)(K:D->Rows->Prop):Prop:=
 cu (gG ids.length aj.length)<|(res.sL (bk ids R.length) true).force λres=>
  tE (tF (bk ids R.length) ids aj R++Bh (bk ids R.length) (aj.drop ids.length)) λR=>K res R
def sM(G:List bd)(f:FuncId)(args:List D)(R:Rows)(K:D->Rows->Prop):Prop:=
 match oF G f with
 |some x=>
  match sH R (λr=>pos r (mu R x.refs args) 0) x.refs args,Bd R (λr=>pos r (mu R x.refs args) 0) (mu R x.refs args)with
  |some az,some rows=>
   cu ((x.flat&&(match mu R x.refs args with|[]=>true|_=>false)||(match lH x.refs args with|[]=>true|_=>false))&&
    (px (CJ x.refs args) (mu R x.refs args)&&px (CA R (mu R x.refs args)) (mu R x.refs args))&&
    (CI (mu R x.refs args)&&pq (lH x.refs args) (mu R x.refs args)))<|
   match x.m az rows with
   |.ok res aj=>DX R (mu R x.refs args) res aj K
   |.when p res aj=>p/\DX R (mu R x.refs args) res aj K
   |.abs _ v res aj=>∀X,X=v->DX R (mu R x.refs args) (res X) (aj X) K
   |.lr p _ v res aj=>p/\∀X,X=v->DX R (mu R x.refs args) (res X) (aj X) K
   |.no=>False
  |_,_=>False
 |none=>False
def oX(G:List bd)(f:FuncId):Option Nat:=match oF G f with|some x=>x.gone|none=>none
def EZ(f:Nat->Nat):List Nat->List Row->Rows->Rows
 |r::ids,row::rows,R=>EZ f ids rows (R.set r (some (row.jg f false)))
 |_,_,R=>R
def PE(f:Nat->Nat)(rows:List Row):Rows:=rows.map λrow=>some (row.jg f false)
def GY(R:Rows)(Ms gid:List Nat)(res:D)(aj:List Row)(K:List Nat->D->Rows->Prop):Prop:=
 cu (gG Ms.length aj.length)<|(res.sL (bk Ms R.length) false).force λres=>
  tE (EZ (bk Ms R.length) Ms aj (rO gid R 0)++PE (bk Ms R.length) (aj.drop Ms.length)) λR=>K gid res R
def HP(G:List bd)(M:Nat)(f:FuncId)(k:Nat)(args:List D)(R:Rows)(K:List Nat->D->Rows->Prop):Prop:=
 match oF G f with
 |some x=>
  match sH R (λr=>pos r (mu R x.refs args) 0) x.refs args,Bd R (λr=>pos r (mu R x.refs args) 0) (mu R x.refs args)with
  |some az,some rows=>
   cu (((match lH x.refs args with|[]=>true|_=>false)&&(match x.refs with|[]=>false|_=>true))&&
    (px (CJ x.refs args) (mu R x.refs args)&&px (CA R (mu R x.refs args)) (mu R x.refs args))&&
    (CI (mu R x.refs args)&&((mu R x.refs args).drop k).all λr=>gG M r))<|
   match x.m az rows with
   |.abs _ v res aj=>∀X,X=v->GY R ((mu R x.refs args).take k) ((mu R x.refs args).drop k) (res X) (aj X) K
   |.lr p _ v res aj=>p/\∀X,X=v->GY R ((mu R x.refs args).take k) ((mu R x.refs args).drop k) (res X) (aj X) K
   |_=>False
  |_,_=>False
 |none=>False
def Z9(G:List bd)(f:FuncId):Bool:=match oF G f with|some x=>x.oZ|none=>false
def Cz(G:List bd)(M:Nat)(f:FuncId)(args:List D)(R:Rows)(K:List Nat->D->Rows->Prop):Prop:=
 match oF G f with
 |some x=>
  match sH R (λr=>r) [] args,Bd R (λr=>pos r (lq [] (lH [] args)) 0) (lq [] (lH [] args))with
  |some az,some rows=>
   cu (((match x.refs with|[]=>true|_=>false)&&rows.all λr=>!r.box)&&(CI (lq [] (lH [] args))&&(px (lH [] args) (lq [] (lH [] args))&&(lq [] (lH [] args)).all λr=>gG M r)))<|
   match x.m az []with
   |.abs _ v res aj=>∀X,X=v->GY R [] (lq [] (lH [] args)) (res X) (aj X) K
   |.lr p _ v res aj=>p/\∀X,X=v->GY R [] (lq [] (lH [] args)) (res X) (aj X) K
   |_=>False
  |_,_=>False
 |none=>False
def PY:D->Bool|.gp _ _=>false|.gq _=>false|.all _=>false|.own _ _ _=>false|.ptr _ _ _=>false|.pa _ _ _ _ _ _=>false|_=>true
def UO:List D->Bool
 |[]=>true
 |d::l=>match PY d with|true=>UO l|false=>false
def sN:D->Bool|.agg cs=>UO cs|d=>PY d
def UP:List D->Bool
 |[]=>true
 |d::l=>match sN d with|true=>UP l|false=>false
def uE:D->Bool|.dw ds=>UP ds|d=>sN d
def Mc(R:Rows)(res:D)(aj:List Row)(K:D->Rows->Prop):Prop:=
 match aj with
 |[]=>cu (uE res) (res.force λres=>K res R)
 |_=>(res.sL (bk [] R.length) true).force λres=>tE (R++Bh (bk [] R.length) aj) λR=>K res R
def CL:List Nat->Bool|[]=>true|_=>false
def Ka(G:List bd)(f:FuncId)(args:List D)(R:Rows)(K:D->Rows->Prop):Prop:=
 match oF G f with
 |some x=>match x.refs with
  |[]=>match sH R (λr=>r) [] args with
   |some az=>cu (x.flat||CL (lH [] args))<|match x.m az []with
    |.ok res aj=>Mc R res aj K
    |.when p res aj=>p/\Mc R res aj K
    |.abs _ v res aj=>∀X,X=v->Mc R (res X) (aj X) K
    |.lr p _ v res aj=>p/\∀X,X=v->Mc R (res X) (aj X) K
    |.no=>False
   |none=>False
  |_=>sM G f args R K
 |none=>False
def u0(T:iy)(e d:TypeId)(x:D)(R:Rows)(K:D->Prop):Prop:=
 match T.get e,T.get d with
 |some ⟨.int .u8,_,_,_,_,_⟩,some ⟨.string,_,_,_,_,_⟩=>match si R x with
  |some (s,es)=>match es.toI .u8 with
   |some l=>cu (bX s 1||H9 es) (K (.str (bytesOf l)))
   |none=>False
  |none=>False
 |_,_=>False
def ai.Nil:ai->Prop
 |.gen es=>es=[]
 |.ints _ l=>l=[]
 |.ag l=>l=[]
 |.ah _ l=>l=[]
def J7(T:iy)(t:TypeId)(es:ai)(K:D->Prop):Prop:=
 match T.get t with
 |some ⟨.slice _ _,_,_,_,_,_⟩=>K (.mO es)
 |_=>False
def uZ(mx:Bool)(x y:D)(K:D->Prop):Prop:=
 match x,y with
 |.int k a,.int k' b=>cu (decide (k=k')) (K (.int k (match mx with|true=>(if b>a then b else a)|false=>(if b<a then b else a))))
 |_,_=>False
def lN(T:iy)(G:List bd)(N M:Nat)(o:Oper)(st:St)(K:St->Prop):Prop:=
  match o.op with
  | .pick c a b=>match cq st.env c with
    | .bool t=>w7 t ((cq st.env a).force λd=>st.put N o.dst d st.rows K) ((cq st.env b).force λd=>st.put N o.dst d st.rows K)
    |_=>False
  | .call {callee:= .value (.func f),args, .. }=>match oX G f with
    | none=>match Z9 G f with
      |false=>Ka G f (args.toList.map (cq st.env)) st.rows λd R=>st.put N o.dst d R K
      |true=>Cz G M f (args.toList.map (cq st.env)) st.rows λks d R=>Ge ks st.env λenv=>St.put N ⟨env,R⟩ o.dst d R K
    |some k=>cu (bN f YB)<|HP G M f k (args.toList.map (cq st.env)) st.rows λks d R=>Ge ks st.env λenv=>St.put N ⟨env,R⟩ o.dst d R K
  | .call {callee:= .value (.tmp t),args, .. }=>match look st.env t with
    | .gp f cs=>match oX G f with
      | none=>match Z9 G f with
        |false=>Ka G f (args.toList.map (cq st.env)++cs.map iD.d) st.rows λd R=>st.put N o.dst d R K
        |true=>False
      |some k=>cu (bN f YB||bX args.size 1)<|HP G M f k (args.toList.map (cq st.env)++cs.map iD.d) st.rows λks d R=>Ge ks st.env λenv=>St.put N ⟨env,R⟩ o.dst d R K
    |_=>False
  | .call {callee:= .builtin .append,args,argTypes}=>match args.toList,argTypes.toList with
    |[x,y],[t,tx]=>LZ T M t tx (cq st.env x) (cq st.env y) st.rows λks d R=>Ge ks st.env λenv=>St.put N ⟨env,R⟩ o.dst d R K
    |_,_=>False
  | .call {callee:= .builtin .copy,args,argTypes}=>match args.toList,argTypes.toList with
    |[x,y],[t,tx]=>tQ T t tx (cq st.env x) (cq st.env y) st.rows λd R=>st.put N o.dst d R K
    |_,_=>False
  | .call {callee:= .builtin .min,args, .. }=>match args.toList with
    |[x,y]=>uZ false (cq st.env x) (cq st.env y) λd=>st.put N o.dst d st.rows K
    |_=>False
  | .call {callee:= .builtin .max,args, .. }=>match args.toList with
    |[x,y]=>uZ true (cq st.env x) (cq st.env y) λd=>st.put N o.dst d st.rows K
    |_=>False
  | .convert s d x=>match T.get s with
    |some ⟨.slice e _,_,_,_,_,_⟩=>u0 T e d (cq st.env x) st.rows λd=>st.put N o.dst d st.rows K
    |_=>gr T (.convert s d x) (cq st.env) st.rows λd R=>st.put N o.dst d R K
  | .binOp op t x y ty=>match op,cq st.env x,cq st.env y with
    | .eql, .sl _ es _, .c8=>J7 T t es λd=>st.put N o.dst d st.rows K
    | .eql, .all r, .c8=>match st.rows.getD r none with
      |some ⟨_,_,_,es⟩=>J7 T t es λd=>st.put N o.dst d st.rows K
      |none=>False
    |_,_,_=>gr T (.binOp op t x y ty) (cq st.env) st.rows λd R=>st.put N o.dst d R K
  |op=>gr T op (cq st.env) st.rows λd R=>st.put N o.dst d R K
def lV(T:iy)(G:List bd)(N M:Nat)(ops:Array Oper):List Oper->St->(St->Prop)->Prop
  |[],st,K=>K st
  | o :: l, st,K=>match o.guard with
    |none=>lN T G N M o st λst=>lV T G N M ops l st K
    | some (j,want)=>match(ops[j]?).bind (·.dst) with
      | some g=>match look st.env g with
        | .bool b=>w7 b
            (match want with|true=>lN T G N M o (st.jX (.tmp g) true) λst=>lV T G N M ops l st K|false=>(st.jX (.tmp g) true).put N o.dst (.dw []) st.rows λst=>lV T G N M ops l st K)
            (match want with|false=>lN T G N M o (st.jX (.tmp g) false) λst=>lV T G N M ops l st K|true=>(st.jX (.tmp g) false).put N o.dst (.dw []) st.rows λst=>lV T G N M ops l st K)
        | .dw []=>st.put N o.dst (.dw []) st.rows λst=>lV T G N M ops l st K
        |_=>False
      |none=>False
def rY(G:List bd):Op->Bool
 |.store _ _ _=>true
 |.call {callee:=.value (.func f),.. }=>match oF G f with|some x=>(match x.refs with|[]=>x.oZ|_=>true)|none=>true
 |.call {callee:=.value (.tmp _),.. }=>true
 |.call {callee:=.builtin .append,.. }=>true
 |.call {callee:=.builtin .copy,.. }=>true
 |_=>false
def kX(G:List bd)(o:Op):Bool:=!rY G o
def Br(G:List bd)(ops:Array Oper)(b:Array Nat)(i j:Nat):Bool:=
 match ops[i]?,ops[j]? with
 |some x,some y=>
  (x.apart ops y||(b.getD j 0).testBit i)&&((kX G x.op&&kX G y.op)||(b.getD j 0).testBit i)
 |_,_=>true
def HG(G:List bd)(ops:Array Oper):Bool:=
 let b:=Region.before ops
 (cW ops.size).all λj=>(match ops[j]? with|some o=>o.after.all λe=>!Region.binds .any e||bN e.on j|none=>true)&&(cW j).all λi=>Br G ops b i j
def kT(ops:Array Oper)(i a:Nat):Bool:=(ops.toList.drop i).all λo=>match o.dst with|some d=>!(bX d a)|none=>true
def lT:List Operand->List Nat
 |[]=>[]
 |.tmp a::l=>a::lT l
 |_::l=>lT l
def rC:Op->Option (List Nat)
 |.assign x=>some (lT [x])
 |.move x=>some (lT [x])
 |.extract x _=>some (lT [x])
 |.nilCheck x=>some (lT [x])
 |.fieldAddr _ x _=>some (lT [x])
 |.buildSlice t len parts=>(match UJ t len with|true=>none|false=>some (lT (parts.toList.map (·.2))))
 |_=>none
def lI(env:List (Nat×D))(op:Op):Option (List Nat):=
 match rC op with
 |some q=>some q
 |none=>match op with
  |.build _ parts=>some (lT (parts.toList.map (·.2)))
  |.binOp _ _ x y _=>match cq env x with|.int _ _=>some (lT [x,y])|.str _=>some (lT [x,y])|.bool _=>some (lT [x,y])|_=>none
  |.unOp _ _ x=>some (lT [x])
  |.convert _ _ x=>match cq env x with|.int _ _=>some (lT [x])|.str _=>some (lT [x])|_=>none
  |.field _ x _=>some (lT [x])
  |.index _ x y=>some (lT [x,y])
  |.slice _ x (some y) (some z) none=>match cq env x with|.str _=>some (lT [x,y,z])|.sl _ _ _=>some (lT [x,y,z])|_=>none
  |.slice _ x (some y) none none=>match cq env x with|.str _=>some (lT [x,y])|.sl _ _ _=>some (lT [x,y])|_=>none
  |.slice _ x none (some z) none=>match cq env x with|.str _=>some (lT [x,z])|.sl _ _ _=>some (lT [x,z])|_=>none
  |.indexAddr _ x y=>match cq env x with|.sl _ _ _=>some (lT [x,y])|_=>none
  |.load _ x=>match cq env x with|.iu _ _ _ _=>some (lT [x])|_=>none
  |.call {callee:=.builtin .len,args,.. }=>match args.toList with|[x]=>(match cq env x with|.str _=>some (lT [x])|.sl _ _ _=>some (lT [x])|_=>none)|_=>none
  |_=>none
def uM:D->Bool|.ptr _ _ _=>true|_=>false
def Z6:D->Bool|.emp=>true|.c8=>true|_=>false
def Fz:D->Bool|.int _ _=>true|.str _=>true|.bool _=>true|.sl _ _ _=>true|.emp=>true|.c8=>true|.iz=>true|_=>false
def uL:D->Bool|.all _=>true|.int _ _=>true|.str _=>true|.bool _=>true|.sl _ _ _=>true|.iu _ _ _ _=>true|.ptr _ _ _=>true|.emp=>true|.c8=>true|.agg cs=>cs.all Fz|_=>false
def CY(ops:Array Oper)(env:List (Nat×D))(i j:Nat)(op:Op)(l:List Operand):Bool:=
 match op,l with
 |.load _ (.tmp a),.tmp x::_=>kT ops i a&&(kT ops j x&&(uM (look env a)&&Z6 (look env x)))
 |_,_=>false
def pz:D->Bool|.int _ _=>true|.str _=>true|.bool _=>true|.sl _ _ _=>true|.all _=>true|.agg cs=>cs.all Fz|_=>false
def CZ(ops:Array Oper)(env:List (Nat×D))(i:Nat)(op:Op)(dst:Option Nat):Bool:=
 match op,dst with
 |.load _ (.tmp a),some t=>kT ops i a&&(uM (look env a)&&(kT ops (i+1) t&&pz (look env t)))
 |_,_=>false
def Mn(G:List bd)(ops:Array Oper)(env:List (Nat×D))(i j:Nat):Bool:=
 match ops[i]?,ops[j]? with
 |some x,some y=>(match x.guard,y.guard,x.op,y.op with
  |none,none,.load _ (.tmp a),.store _ (.tmp b) _=>kT ops i a&&(kT ops j b&&(match look env a,look env b with|.ptr r _ _,.ptr r' _ _=>!(bX r r')|.iu _ _ _ _,.ptr _ _ _=>true|_,_=>false))
  |none,none,op,.store _ (.tmp b) _=>(match lI env op with|some q=>(q.all λa=>kT ops i a)&&(kT ops j b&&(match look env b with|.ptr _ _ _=>true|_=>false))|none=>false)
  |none,none,op,.call {callee:=.value (.func f),.. }=>(match(match oX G f with|some _=>true|none=>Z9 G f)with|true=>false|false=>match lI env op with|some q=>q.all λa=>kT ops i a|none=>false)
  |none,none,op,.call {callee:=.builtin .append,args,.. }=>(match lI env op with|some q=>(q.all λa=>kT ops i a&&uL (look env a))&&(match x.dst with|some t=>kT ops (i+1) t&&uL (look env t)|none=>true)|none=>CY ops env i j op args.toList||CZ ops env i op x.dst)
  |_,_,_,_=>false)
 |_,_=>false
def uN(ops:Array Oper)(j:Nat):Bool:=
 match ops[j]? with
 |some y=>match y.guard,y.op with
  |none,.alloc _=>(match y.dst with|none=>true|some u=>(cW ops.size).all λk=>bX k j||(match(ops[k]?).bind (·.dst)with|some d=>!(bX d u)|none=>true))
  |_,_=>false
 |none=>false
def wO(G:List bd)(ops:Array Oper)(env:List (Nat×D))(b:Array Nat)(i j:Nat):Bool:=
 match ops[i]?,ops[j]? with
 |some x,some y=>
  (x.apart ops y||(b.getD j 0).testBit i)&&((kX G x.op&&kX G y.op)||(b.getD j 0).testBit i||(Mn G ops env i j||uN ops j))
 |_,_=>true
def QR(G:List bd)(ops:Array Oper)(env:List (Nat×D)):Bool:=
 let b:=Region.before ops
 (cW ops.size).all λj=>(match ops[j]? with|some o=>o.after.all λe=>!Region.binds .any e||bN e.on j|none=>true)&&(cW j).all λi=>wO G ops env b i j
def Hw(x:Nat):List Nat->Nat->List Nat
 |l,0=>x::l
 |[],_=>[x]
 |y::l,n+1=>y::Hw x l n
def Di(m:Nat):List Nat->Nat->Nat->Nat
 |[],_,r=>r
 |y::l,k,r=>Di m l (k+1) (match m.testBit y with|true=>k+1|false=>r)
def Dj:List Oper->Bool
 |[]=>false
 |o::l=>match o.op with|.buildSlice _ 0 _=>true|_=>Dj l
def FH(e e2:Bool)(op:Op):Bool:=match rC op with|some _=>true|none=>(match op with|.load _ _=>e|.slice _ _ _ _ _=>e2|.binOp _ _ _ _ _=>e2|_=>false)
def Dk(e e2:Bool)(ops:Array Oper)(b:Array Nat):List Nat->List Nat->List Nat
 |[],acc=>acc
 |j ::js,acc=>Dk e e2 ops b js (match ops[j]? with
  |some o=>(match o.guard with
   |none=>(match FH e e2 o.op with|true=>Hw j acc (Di (b.getD j 0) acc 0 0)|false=>acc++[j])
   |some _=>acc++[j])
  |none=>acc)
def RD(ops:Array Oper)(b:Array Nat):Bool:=
 (cW ops.size).any λj=>(match ops[j]? with|some y=>(match y.op with|.load _ _=>true|_=>false)|none=>false)&&(cW j).any λi=>(match ops[i]? with|some x=>(match x.op with|.call {callee:=.builtin .append,.. }=>true|_=>false)|none=>false)&&!((b.getD j 0).testBit i)
def RE(ops:Array Oper)(b:Array Nat):Bool:=
 (cW ops.size).any λj=>(match ops[j]? with|some y=>(match y.op with|.slice _ _ _ _ _=>true|_=>false)|none=>false)&&(cW j).any λi=>(match ops[i]? with|some x=>(match x.op with|.call {callee:=.builtin .append,.. }=>true|_=>false)|none=>false)&&!((b.getD j 0).testBit i)
def Vm(ops:Array Oper):List Nat:=Dk (Dj ops.toList||RD ops (Region.before ops)) (RE ops (Region.before ops)) ops (Region.before ops) (cW ops.size) []
def U8(p:List Nat)(n:Nat):Bool:=bX p.length n&&(((cW n).all λi=>da i p)&&((p.all λi=>bN i n)&&CI p))
def Dc(p:List Nat)(e:Edge):Edge:=⟨pos e.on p 0,e.ground⟩
def Mp(p:List Nat)(o:Oper):Oper:=⟨o.dst,o.op,o.type,o.pos,o.after.map (Dc p),match o.guard with|none=>none|some (j,w)=>some (pos j p 0,w)⟩
def nj(p:List Nat)(ops:Array Oper):Array Oper:=(p.map λi=>Mp p (ops.getD i default)).toArray
def uH(T:iy)(G:List bd)(N M:Nat)(ops:Array Oper)(st:St)(Q:Ex->St->Prop):Prop:=
 match HG G ops with
 |true=>lV T G N M ops ops.toList st λst=>Q .normal st
 |false=>cu (U8 (Vm ops) ops.size)<|lV T G N M (nj (Vm ops) ops) (nj (Vm ops) ops).toList st λst=>cu (QR G (nj (Vm ops) ops) st.env) (Q .normal st)
def Hh(i n:Nat):List D->Option (List D)
 |[]=>none
 |d::l=>match d,l with
  |.iz,.c8::m=>some (.gq i:: .all n::m)
  |d,l=>match Hh i n l with|some l'=>some (d::l')|none=>none
def RG(T:iy)(t:TypeId):Bool:=match T.get t with|some ⟨_,_,_,_,some ds,_⟩=>(match Hh 0 0 ds with|some _=>true|none=>false)|_=>false
def uT(T:iy):List Oper->Bool
 |[]=>false
 |o::l=>match o.op with|.alloc t=>(match RG T t with|true=>true|false=>uT T l)|_=>uT T l
def RH:iy->Option TypeId
 |[]=>none
 |(u,i)::l=>match i.kind with|.int .u8=>some u|_=>RH l
def Jaj(T:iy):Code->Option TypeId
 |.region _ ops _=>(match uT T ops.toList with|true=>RH T|false=>none)
 |_=>none
def Jk(n:Nat):Rows->Nat->Option (Nat×TypeId×Nat×List D)
 |[],_=>none
 |x::l,i=>match x with
  |some ⟨true,ty,sz,.gen [e]⟩=>(match Hh i n e with|some e'=>some (i,ty,sz,e')|none=>Jk n l (i+1))
  |_=>Jk n l (i+1)
def Jl(T:iy)(a:Code)(st:St)(K:St->Prop):Prop:=
 match Jaj T a with
 |none=>K st
 |some u=>match Jk st.rows.length st.rows 0 with
  |none=>K st
  |some (i,ty,sz,e)=>D.j5 e λe=>tE (st.rows.set i (some ⟨true,ty,sz,.gen [e]⟩)++[some ⟨false,u,1,.ints .u8 []⟩]) λR=>K ⟨st.env,R⟩
def D.BF(R:Rows)(ks:List Nat):D->D
 |.all r=>match da r ks with
  |true=>(match R.getD r none with|some ⟨false,_,sz,es⟩=>.sl sz es false|_=>.dead)
  |false=>.all r
 |.ptr r i off=>match da r ks with
  |true=>(match R.getD r none with|some ⟨true,_,sz,.gen [e]⟩=>(match e.all D.plain with|true=>.iu sz (.gen [e]) i off|false=>.dead)|_=>.dead)
  |false=>.ptr r i off
 |d=>d.fc ks
def D.sj(R:Rows)(ks:List Nat):List D->List D
 |[]=>[]
 |d::l=>d.BF R ks::sj R ks l
def D.HT(R:Rows)(ks:List Nat):D->D
 |.agg cs=>.agg (D.sj R ks cs)
 |d=>d.BF R ks
def D.HU(R:Rows)(ks:List Nat):List D->List D
 |[]=>[]
 |d::l=>d.HT R ks::HU R ks l
def D.BG(R:Rows)(ks:List Nat):D->D
 |.dw ds=>.dw (D.HU R ks ds)
 |d=>d.HT R ks
def Row.mi(R:Rows)(ks:List Nat):Row->Row
 |⟨true,ty,sz,.gen [e]⟩=>⟨true,ty,sz,.gen [D.sj R ks e]⟩
 |r=>r
def Kd(R0:Rows)(ks:List Nat):Rows->Nat->Rows
 |[],_=>[]
 |x::l,i=>(match da i ks with|true=>none|false=>match x with|some row=>some (row.mi R0 ks)|none=>none)::Kd R0 ks l (i+1)
def Em(R:Rows)(ks:List Nat):List (Nat×D)->(List (Nat×D)->Prop)->Prop
 |[],K=>K []
 |(t,d)::l,K=>(d.BG R ks).force λd=>Em R ks l λl=>K ((t,d)::l)
def Dl:List D->List Nat
 |[]=>[]
 |d::l=>(match d with|.all r=>[r]|_=>[])++Dl l
def RI:D->List Nat|.agg cs=>Dl cs|.all r=>[r]|_=>[]
def FI(R:Rows)(n:Nat)(d:D):List Nat:=
 match d with
 |.ptr r _ off=>match R.getD r none with|some ⟨true,_,_,.gen [e]⟩=>Dl ((e.drop off).take n)|_=>[]
 |_=>[]
def Hx:List (Nat×List Nat)->Nat->Option (List Nat)
 |[],_=>none
 |(u,x)::l,t=>match bX u t with|true=>some x|false=>Hx l t
def Mt(env:List (Nat×D)):List (Nat×D)->Nat->D
 |[],t=>look env t
 |(u,x)::l,t=>match bX u t with|true=>x|false=>Mt env l t
def uU(env:List (Nat×D))(acc:List (Nat×List Nat)):Operand->List Nat
 |.tmp t=>match Hx acc t with|some l=>l|none=>RI (look env t)
 |_=>[]
def wR(env:List (Nat×D))(acc:List (Nat×List Nat)):List Operand->List Nat
 |[]=>[]
 |x::l=>uU env acc x++wR env acc l
def JO(T:iy)(env:List (Nat×D))(R:Rows)(acc:List (Nat×List Nat))(pa:List (Nat×D))(o:Oper):List (Nat×List Nat):=
 match o.dst with
 |none=>acc
 |some t=>match o.op with
  |.load ty (.tmp p)=>(t,FI R (match T.get ty with|some i=>i.size|none=>0) (Mt env pa p))::acc
  |.move x=>(t,uU env acc x)::acc
  |.slice _ x _ _ _=>(t,uU env acc x)::acc
  |_=>acc
def JP(T:iy)(env:List (Nat×D))(pa:List (Nat×D))(o:Oper):List (Nat×D):=
 match o.dst with
 |none=>pa
 |some t=>match o.op with
  |.fieldAddr s (.tmp p) f=>(match PZ T s f with|some (k,_,_)=>(match Mt env pa p with|.ptr r i off=>(t,.ptr r i (off+k))::pa|_=>pa)|none=>pa)
  |.move (.tmp p)=>(t,Mt env pa p)::pa
  |.nilCheck (.tmp p)=>(t,Mt env pa p)::pa
  |_=>pa
def JQ(G:List bd)(f:FuncId):Bool:=match oF G f with|some x=>x.oZ||(match x.refs with|[]=>!x.flat|_=>false)|none=>false
def RJ(T:iy)(env:List (Nat×D))(pa:List (Nat×D))(t:TypeId)(p:Nat):List Nat:=
 match T.get t with
 |some ⟨.array _ _ _,_,_,_,_,_⟩=>(match Mt env pa p with|.ptr r _ _=>[r]|_=>[])
 |_=>[]
def SD(T:iy)(G:List bd)(env:List (Nat×D))(R:Rows):List (Nat×List Nat)->List (Nat×D)->List Oper->List Nat
 |_,_,[]=>[]
 |acc,pa,o::l=>(match o.op with|.call {callee:=.value (.func f),args,.. }=>(match JQ G f with|true=>wR env acc args.toList|false=>[])|.slice t (.tmp p) _ _ _=>RJ T env pa t p|_=>[])++SD T G env R (JO T env R acc pa o) (JP T env pa o) l
def uc(M:Nat)(R:Rows):List Nat->List Nat
 |[]=>[]
 |r::l=>match gG M r&&(match R.getD r none with|some ⟨false,_,_,_⟩=>true|some ⟨true,_,_,.gen [e]⟩=>e.all D.plain|_=>false)with|true=>r::uc M R l|false=>uc M R l
def HV(T:iy)(G:List bd)(M:Nat)(ops:Array Oper)(st:St)(K:St->Prop):Prop:=
 match uc M st.rows (SD T G st.env st.rows [] [] ops.toList)with
 |[]=>K st
 |ks=>Em st.rows ks st.env λenv=>tE (Kd st.rows ks st.rows 0) λR=>K ⟨env,R⟩
def ud(T:iy)(R:Rows)(i:Nat):Option (TypeId×Nat×TypeId×Nat):=
 match R.getD i none with
 |some ⟨true,ty,sz,.gen [[d]]⟩=>(match d with
  |.c8=>(match T.get ty with|some ⟨.slice e n,_,_,_,_,_⟩=>(match bN 0 n with|true=>some (ty,sz,e,n)|false=>none)|_=>none)
  |.emp=>(match T.get ty with|some ⟨.slice e n,_,_,_,_,_⟩=>(match bN 0 n with|true=>some (ty,sz,e,n)|false=>none)|_=>none)
  |_=>none)
 |_=>none
def HW(T:iy):List iD->List (Nat×D)->Rows->(Rows->Prop)->Prop
 |[],_,R,K=>K R
 |.ptr i _ _::l,env,R,K=>(match ud T R i with
  |some (ty,sz,e,n)=>uz R ⟨false,e,n,.gen []⟩ λk R=>tE (R.set i (some ⟨true,ty,sz,.gen [[.all k]]⟩)) λR=>HW T l env R K
  |none=>HW T l env R K)
 |_::l,env,R,K=>HW T l env R K
def Vn(env:List (Nat×D)):List Operand->List iD
 |[]=>[]
 |.tmp t::l=>(match look env t with|.ptr i o f=>.ptr i o f::Vn env l|_=>Vn env l)
 |_::l=>Vn env l
def wS(env:List (Nat×D)):List Oper->List iD
 |[]=>[]
 |o::l=>(match o.op with|.makeFunc _ _ captured=>Vn env captured.toList|_=>[])++wS env l
def splitAt:List (Nat×Nat)->Nat->Option Nat
 |[],_=>none
 |(g,i)::l,f=>match bX g f with|true=>some i|false=>splitAt l f
def Zqw:List (Nat×Operand)->Nat->Operand
 |[],t=>.tmp t
 |(s,x)::l,t=>match bX s t with|true=>x|false=>Zqw l t
def Vo:List (Nat×Operand)->List Oper->Option Operand
 |_,[]=>none
 |mv,o::l=>match o.op with
  |.call {callee:=.value (.func f),args,.. }=>(match splitAt splits f with
   |some i=>(match args.toList[i]? with|some (.tmp t)=>some (Zqw mv t)|_=>none)
   |none=>Vo mv l)
  |.move x=>Vo (match o.dst with|some t=>(t,x)::mv|none=>mv) l
  |_=>Vo mv l
def uJ(ops:List Oper)(st:St)(K:St->Prop):Prop:=
 match Vo [] ops with
 |none=>K st
 |some x=>match cq st.env x with
  |.bool t=>w7 t (K (st.jX x true)) (K (st.jX x false))
  |_=>K st
def o4(T:iy)(G:List bd)(N M:Nat)(L:Code->St->(Ex->St->Prop)->Prop):Code->St->(Ex->St->Prop)->Prop
 |.skip,st,Q=>Q .normal st
 |.label _,st,Q=>Q .normal st
 |.region _ ops draw,st,Q=>uJ ops.toList st λst=>HW T (wS st.env ops.toList) st.env st.rows λR=>HV T G M ops ⟨st.env,R⟩ λst=>match draw with|true=>uH T G N M ops st Q|false=>lV T G N M ops ops.toList st λst=>Q .normal st
 |.seq a b,st,Q=>o4 T G N M L a st λe st=>match e with|.normal=>Jl T a st λst=>o4 T G N M L b st Q|.exit i=>Q (.exit i) st|.ret=>Q .ret st
 |.cond c a b,st,Q=>match cq st.env c with
  |.bool t=>w7 t (o4 T G N M L a (st.jX c true) Q) (o4 T G N M L b (st.jX c false) Q)
  |.mO es=>(es.Nil->o4 T G N M L a (st.jX c true) Q)/\o4 T G N M L b (st.jX c false) Q
  |_=>False
 |.block id c,st,Q=>o4 T G N M L c st λe st=>match e with|.normal=>Q .normal st|.exit i=>(match bX i id with|true=>Q .normal st|false=>Q (.exit i) st)|.ret=>Q .ret st
 |.exit id,st,Q=>Q (.exit id) st
 |.ret,st,Q=>Q .ret st
 |.scope c,st,Q=>o4 T G N M L c st Q
 |c,st,Q=>L c st Q
def Fv(T:iy)(R:Rows)(env:List (Nat×D)):List ResultVar->(List D->Prop)->Prop
 |[],K=>K []
 |.tmp t::l,K=>(look env t).force λd=>cu d.isVal (Fv T R env l λds=>K (d::ds))
 |.cell a t::l,K=>wH T t (look env a) R λd _=>cu d.isVal (Fv T R env l λds=>K (d::ds))
def ka(ex:List Nat)(i r:Nat):Bool:=match ex[i]? with|some x=>bX x r|none=>false
def Kh(ex:List Nat)(r:Nat):Bool:=ex.all λx=>!(bX x r)
def Ic(ex:List Nat)(R:Rows)(i:Nat):Bool:=match ex[i]? with|some r=>(match R.getD r none with|none=>true|some _=>false)|none=>false
def ai.Eq:ai->ai->Prop
 |.ints k l,.ints k' m=>match decide (k=k')with|true=>l=m|false=>(ai.ints k l).l=(ai.ints k' m).l
 |.ag l,.ag m=>l=m
 |.gen es,.gen fs=>es=fs
 |.gen [],.ints _ m=>m=[]
 |.gen [],.ag m=>m=[]
 |.gen [],.ah _ m=>m=[]
 |.ah k l,.ah k' m=>(match FU k k' l with|some l'=>l'=m|none=>(ai.ah k l).l=(ai.ah k' m).l)
 |E,F=>E.l=F.l
theorem ai.w9{E F:ai}(h:ai.Eq E F):E.l=F.l:=by
 cases E with
 |gen es=>
  cases es with
  |nil=>cases F<;>simp_all [ai.Eq,ai.l]
  |cons e es=>cases F<;>simp_all [ai.Eq,ai.l]
 |ints k l=>
  cases F with
  |ints k' m=>
   simp only[ai.Eq]at h
   split at h
   ·rename_i hk;subst h;rw[oY hk]
   ·exact h
  |_=>exact h
 |ag l=>
  cases F with
  |ag m=>simp only[ai.Eq]at h;rw[h]
  |_=>exact h
 |ah k l=>
  cases F with
  |ah k' m=>
   simp only[ai.Eq]at h
   split at h
   ·rename_i l' hc
    obtain⟨e,hm⟩:=Wd hc
    subst e
    simp only at hm
    rw[<-h,<-hm]
   ·exact h
  |_=>exact h
theorem ai.oe{E:ai}:E.Nil↔E.l=[]:=by
 cases E<;>simp[ai.Nil,ai.l]
def sq(ex:List Nat):List (Nat×Nat×Nat)->List (Nat×Nat×Nat)->Bool
 |[],[]=>true
 |(i,b,c)::l,(r,y,z)::m=>ka ex i r&&(bX b y&&(bX c z&&sq ex l m))
 |_,_=>false
def o5(ex:List Nat):List iD->List iD->Bool
 |[],[]=>true
 |.ptr i b c::l,.ptr r y z::m=>ka ex i r&&(bX b y&&(bX c z&&o5 ex l m))
 |.fn f ps::l,.fn g qs::m=>bX f g&&(sq ex ps qs&&o5 ex l m)
 |_,_=>false
def iL(ex:List Nat)(m:Nat)(R:Rows)(d p:D):Prop:=
 match p with
 |.int k n=>match d with|.int j q=>cu (decide (j=k)) (q=n)|_=>False
 |.bool b=>match d with|.bool a=>a=b|_=>False
 |.str s=>match d with|.str u=>u=s|_=>False
 |.iz=>match d with|.iz=>True|_=>False
 |.jL=>match d with|.jL=>True|_=>False
 |.gp f cs=>match d with|.gp g ds=>cu (bX f g&&o5 ex cs ds) True|_=>False
 |.ptr i o f=>match d with|.ptr r o' f'=>cu (ka ex i r&&(bX o o'&&bX f f')) True|_=>False
 |.gq i=>match d with|.iz=>True|.gq r=>cu (ka ex i r) True|.ptr r o f=>cu (ka ex i r&&(bX o 0&&bX f 0)) True|_=>False
 |.c8=>match d with|.c8=>True|_=>False
 |.emp=>match d with|.c8=>True|.emp=>True|_=>False
 |.sl sz es fr=>match d with
  |.c8=>es.Nil
  |.emp=>es.Nil
  |.sl j9 iW fr'=>cu (!fr||fr') ((iW.Nil\/j9=sz)/\ai.Eq iW es)
  |.all r=>match R.getD r none with
   |some ⟨box,_,j9,iW⟩=>cu (!box&&bX j9 sz&&Kh ex r&&gG m r) (ai.Eq iW es)
   |none=>False
  |.own r o n=>match R.getD r none with
   |some ⟨box,_,j9,iW⟩=>cu (!box&&bX j9 sz&&Kh ex r&&gG m r) (ai.Eq ((iW.drop o).take n) es)
   |none=>False
  |_=>False
 |.all i=>match d with|.all r=>cu (ka ex i r) True|.c8=>cu (Ic ex R i) True|.emp=>cu (Ic ex R i) True|_=>False
 |.own i o n=>match d with|.own r o' n'=>cu (ka ex i r) (o'=o/\n'=n)|_=>False
 |.dead=>cu d.Hj True
 |_=>False
def Dy(ex:List Nat)(m:Nat)(R:Rows):List D->List D->Prop
 |[],[]=>True
 |d::ds,p::ps=>iL ex m R d p/\Dy ex m R ds ps
 |_,_=>False
def o6(ex:List Nat)(m:Nat)(R:Rows)(d p:D):Prop:=
 match p with
 |.agg ps=>match d with|.agg ds=>Dy ex m R ds ps|_=>False
 |p=>iL ex m R d p
def wc(ex:List Nat)(m:Nat)(R:Rows):List D->List D->Prop
 |[],[]=>True
 |d::ds,p::ps=>o6 ex m R d p/\wc ex m R ds ps
 |_,_=>False
def sn(ex:List Nat)(m:Nat)(R:Rows)(d p:D):Prop:=
 match p with
 |.dw ps=>match d with|.dw ds=>wc ex m R ds ps|_=>False
 |p=>o6 ex m R d p
def lO(ex:List Nat)(m:Nat)(R:Rows):List Nat->List Row->Prop
 |[],[]=>True
 |r ::rs,⟨box,ty,sz,es⟩::ps=>(match R.getD r none with
  |some ⟨Ac,jW,j9,iW⟩=>cu (Bool.xor (!box) Ac&&bX ty jW&&bX sz j9) (match box with
   |false=>ai.Eq iW es
   |true=>match iW,es with|.gen [e'],.gen [e]=>Dy ex m R e' e|_,_=>False)
  |none=>cu (!box&&bN 0 sz) es.Nil)/\lO ex m R rs ps
 |_,_=>False
def newAt(n0:Nat):List (Nat×Nat)->Nat->Nat
 |[],i=>n0+i
 |(j,r)::l,i=>match bX j i with|true=>r|false=>newAt n0 l i
def news(n0:Nat)(l:List (Nat×Nat)):Nat->Nat->List Nat
 |_,0=>[]
 |i,n+1=>newAt n0 l i::news n0 l (i+1) n
def Mi:List Nat->List Nat->Bool
 |[],[]=>true
 |x::l,y::m=>bX x y&&Mi l m
 |_,_=>false
def so(M:Nat)(ex:List Nat):Bool:=(Mi (ex.take M) (cW M)&&(ex.drop M).all λr=>gG M r)&&CI (ex.drop M)
def Ae(m:Nat)(res:D)(rows:List Row)(d:D)(R:Rows):Prop:=
 ∃ex,so m ex=true/\sn ex m R d res/\lO ex m R ex rows
def Fu:List D->Nat->List (Nat×D)
 |[],_=>[]
 |d::ds,i=>(i,d)::Fu ds (i+1)
def kh(T:iy)(G:List bd)(L:Code->St->(Ex->St->Prop)->Prop)(fn:Func)(args:List D)(rows:List Row)(Q:D->Rows->Prop):Prop:=
 match fn.body with
 |some c=>o4 T G fn.ntmps rows.length L c ⟨Fu args 0,rows.map some⟩ λe st=>match e with
  |.exit _=>False
  |_=>Fv T st.rows st.env fn.results.toList λds=>match ds with|[d]=>Q d st.rows|ds=>Q (.dw ds) st.rows
 |none=>False
def ow:List Nat->List D->List (Nat×D)
 |t::ts,d::ds=>(t,d)::ow ts ds
 |_,_=>[]
def Ap:List iD->List Nat
 |[]=>[]
 |.fn f _::l=>f::Ap l
 |_::l=>Ap l
def Aq:D->List Nat|.gp f cs=>f::Ap cs|_=>[]
def ry:List D->List Nat
 |[]=>[]
 |d::l=>Aq d++ry l
def Fe:D->List Nat|.agg cs=>ry cs|d=>Aq d
def ot:List D->List Nat
 |[]=>[]
 |d::l=>Fe d++ot l
def CC:D->List Nat|.dw ds=>ot ds|d=>Fe d
def kH:List Row->List Nat
 |[]=>[]
 |⟨true,_,_,.gen [e]⟩::l=>ry e++kH l
 |_::l=>kH l
def Gf:Rows->List Nat
 |[]=>[]
 |some r::l=>kH [r]++Gf l
 |none::l=>Gf l
def pZ(l:List Nat):Bool:=l.all λf=>bN f YB
def Aa:List (Nat×D)->List Nat
 |[]=>[]
 |(_,d)::l=>CC d++Aa l
def Fx (T:iy)(G:List bd)(L:Code->St->(Ex->St->Prop)->Prop)(fn:Func)(args:List D)(rows:List Row)(Q:D->Rows->Prop)(M:Nat):Prop:=
 match fn.body with
 |some c =>match gG YB fn.nfree with
  |true =>match bX fn.nfree YB with
   |true=>o4 T G fn.ntmps M L c ⟨ow fn.params.toList args,rows.map some⟩ λe st=>match e with
    |.normal=>Q (.bool true) st.rows
    |_=>False
   |false=>match c with
    |.seq a b=>o4 T G fn.ntmps M L a ⟨ow fn.params.toList args,rows.map some⟩ λe st=>match e with
     |.normal=>cu (pZ (Aa st.env++Gf st.rows)) (o4 T G fn.ntmps M L b st λe st=>match e with
      |.normal=>Q (.bool true) st.rows
      |_=>False)
     |_=>False
    |_=>False
  |false=>o4 T G fn.ntmps M L c ⟨Fu args 0,rows.map some⟩ λe st=>match e with
  |.exit _=>False
  |_=>Fv T st.rows st.env fn.results.toList λds=>match ds with|[d]=>Q d st.rows|ds=>Q (.dw ds) st.rows
 |none=>False
