import Derived.Test.YtaemmjbkndlkeaaGreatMigrateCancelsFy
open Nat renaming beq->bX,blt->bN,ble->gD
open BitVec renaming ofInt->dR
open List renaming replicate->cO,range->cW
set_option linter.all false
namespace Go.GD
open Go
variable {b:Bool}{p:Prop}
def cv(b:Bool)(p:Prop):Prop:=match b with|true=>p|false=>False
def Aj(b:Bool)(p q:Prop):Prop:=match b with|true=>p|false=>q
theorem dm:cv b p↔b=true/\p:=by cases b<;>simp[cv]
theorem ZH{p q:Prop}:Aj b p q↔(b=true->p)/\(b=false->q):=by cases b<;>simp[Aj]
abbrev Rows:=List (Option Row)
namespace D
def Ft(n:Nat):D->Bool|.sl m _ _=>bX m n|.de=>true|.emp=>true|_=>false
def toEs:D->ai|.sl _ es _=>es|_=>.gen []
def u6:D->Bool|.agg _=>false|.ee _=>false|.dead=>false|_=>true
def isVal:D->Bool|.ee _=>false|.dead=>false|_=>true
def Hu:D->Bool|.agg _=>false|.ee _=>false|_=>true
def plain:D->Bool|.bool _=>true|.int _ _=>true|.str _=>true|.iO=>true|.de=>true|.emp=>true|.sl _ _ _=>true|_=>false
def cells:D->List D|.agg cs=>cs|d=>[d]
def force:D->(D->Prop)->Prop
 |.bool b,K=>K (.bool b)
 |.int k n,K=>K (.int k n)
 |.str s,K=>K (.str s)
 |.sl a b c,K=>K (.sl a b c)
 |.all a,K=>K (.all a)
 |.own a b c,K=>K (.own a b c)
 |.ptr a b c,K=>K (.ptr a b c)
 |.pa a b c d e f,K=>K (.pa a b c d e f)
 |.iC a b c d,K=>K (.iC a b c d)
 |.iO,K=>K .iO
 |.de,K=>K .de
 |.emp,K=>K .emp
 |.mY es,K=>K (.mY es)
 |.dead,K=>K .dead
 |.gx a b,K=>K (.gx a b)
 |.gr a,K=>K (.gr a)
 |.jN,K=>K .jN
 |.agg a,K=>K (.agg a)
 |.ee a,K=>K (.ee a)
end D
def D.j7:List D->(List D->Prop)->Prop
 |[],K=>K []
 |d::l,K=>d.force λd=>j7 l λl=>K (d::l)
def tR:Rows->(Rows->Prop)->Prop
 |[],K=>K []
 |d::l,K=>tR l λl=>K (d::l)
inductive tI where
 |int (k:IntKind)|bool|str|sl (n:Nat)|other
inductive TK where
 |int (k:IntKind)|bool|string
 |slice (e:TypeId) (n:Nat)
 |struct (fs:List (Nat×TypeId×Nat))
 |array (len:Nat) (e:TypeId) (n:Nat)
 |other
structure TI where
 kind:TK
 size:Nat
 bytes:Nat
 sU:List tI
 zero:Option (List D)
 eq:Bool
abbrev iG:=List (TypeId×TI)
def iG.get:iG->TypeId->Option TI
 |[],_=>none
 |(u,i)::l,t=>match bX u t with|true=>some i|false=>iG.get l t
def TK.isAgg:TK->Bool|.struct _=>true|.array _ _ _=>true|_=>false
def uP(pl:Bool):tI->D->(D->Prop)->Prop
 |.int k,c,K=>cv (c.isInt k) (K (.int k c.toInt))
 |.bool,c,K=>cv c.isBool (K (.bool c.toBool))
 |.str,c,K=>cv c.isStr (K (.str c.toStr))
 |.sl n,c,K=>match pl with
  |true=>cv (c.Ft n) (K (.sl n c.toEs false))
  |false=>cv c.u6 (c.force K)
 |.other,c,K=>match pl with
  |true=>match c with|.iO=>K .iO|_=>False
  |false=>cv c.u6 (c.force K)
def Jy(pl:Bool)(e:List D):List tI->Nat->(List D->Prop)->Prop
 |[],_,K=>K []
 |t::ts,off,K=>uP pl t (e.getD off .dead) λd=>Jy pl e ts (off+1) λds=>K (d::ds)
def uQ(pl:Bool)(t:TI)(e:List D)(off:Nat)(K:D->Prop):Prop:=
 match t.kind.isAgg with
 |true=>Jy pl e t.sU off λds=>K (.agg ds)
 |false=>match t.sU with
  |[y]=>uP pl y (e.getD off .dead) K
  |_=>False
def kX:List D->Nat->List D->List D
 |e,_,[]=>e
 |e,off,v::vs=>kX (e.set off v) (off+1) vs
def QF:Value->Option D
 |.bool b=>some (.bool b)
 |.int k n=>some (.int k n)
 |.string s=>some (.str s.data.toList)
 |.slice none 0 0=>some .de
 |.pointer none=>some .iO
 |.nilIface=>some .jN
 |.nilFunc=>some .dead
 |_=>none
def Br:List Value->Option (List D)
 |[]=>some []
 |v::vs=>match QF v,Br vs with|some d,some ds=>some (d::ds)|_,_=>none
def Ge:Value->Option D
 |.agg cs=>(Br cs.toList).map .agg
 |v=>QF v
structure St where
 env:List (Nat×D)
 rows:Rows
def look:List (Nat×D)->Nat->D
 |[],_=>.dead
 |(u,d)::l,t=>match bX u t with|true=>d|false=>look l t
def cq(env:List (Nat×D)):Operand->D
 |.tmp t=>look env t
 |.const v=>(Ge v).getD .dead
 |.func f=>match bN f YB with|true=>.gx f []|false=>.dead
 |_=>.dead
def ba(k:IntKind)(x y:Int):Int:=k.wrap (dR k.bits x&&&dR k.bits y).toNat
def iU(k:IntKind)(x y:Int):Int:=k.wrap (dR k.bits x|||dR k.bits y).toNat
def rP(k:IntKind)(x y:Int):Int:=k.wrap (dR k.bits x^^^dR k.bits y).toNat
def o4(k:IntKind)(x y:Int):Int:=k.wrap (dR k.bits x&&&~~~dR k.bits y).toNat
def fh(k:IntKind)(x y:Int):Int:=k.wrap (x*2^(min y.toNat k.bits))
def bb(k:IntKind)(x y:Int):Int:=x.fdiv (2^(min y.toNat k.bits))
def U6(op:BinOp)(k:IntKind)(x y:Int)(K:D->Prop):Prop:=
 match op with
 |.add=>K (.int k (k.wrap (x+y)))
 |.sub=>K (.int k (k.wrap (x-y)))
 |.mul=>K (.int k (k.wrap (x*y)))
 |.quo=>cv (decide (y≠0)) (K (.int k (k.wrap (x.tdiv y))))
 |.rem=>cv (decide (y≠0)) (K (.int k (x.tmod y)))
 |.and=>K (.int k (ba k x y))
 |.or=>K (.int k (iU k x y))
 |.xor=>K (.int k (rP k x y))
 |.andNot=>K (.int k (o4 k x y))
 |.eql=>K (.bool (x==y))
 |.neq=>K (.bool (x !=y))
 |.lss=>K (.bool (decide (x<y)))
 |.leq=>K (.bool (decide (x<=y)))
 |.gtr=>K (.bool (decide (x>y)))
 |.geq=>K (.bool (decide (x>=y)))
 |_=>False
def PG:D->D->Bool
 |.int _ a,.int _ b=>a==b
 |.bool a,.bool b=>a==b
 |.str a,.str b=>decide (a=b)
 |_,_=>false
def eqs:List D->List D->Bool
 |[],_=>true
 |a::l,b::m=>PG a b&&eqs l m
 |_::_,[]=>false
def fits:List tI->List D->Bool
 |[],[]=>true
 |.int k::t,d::l=>d.isInt k&&fits t l
 |.bool::t,d::l=>d.isBool&&fits t l
 |.str::t,d::l=>d.isStr&&fits t l
 |_,_=>false
def sV(T:iG)(op:BinOp)(t:TypeId)(x y:D)(K:D->Prop):Prop:=
 match x,y with
 |.int k a,.int k' b=>
  match op with
  |.shl=>cv (decide (0<=b)) (K (.int k (fh k a b)))
  |.shr=>cv (decide (0<=b)) (K (.int k (bb k a b)))
  |op=>cv (decide (k=k')) (U6 op k a b K)
 |.str a,.str b=>
  match op with
  |.add=>cv (decide (a.length+b.length<=maxLen)) (K (.str (a++b)))
  |.eql=>K (.bool (decide (a=b)))
  |.neq=>K (.bool (!decide (a=b)))
  |_=>False
 |.bool a,.bool b=>
  match T.get t with
  |some ⟨.bool,_,_,_,_,_⟩=>match op with
   |.eql=>K (.bool (a==b))
   |.neq=>K (.bool (!(a==b)))
   |_=>False
  |_=>False
 |.agg a,.agg b=>
  match T.get t with
  |some ti=>cv (ti.kind.isAgg&&bN 0 ti.size&&ti.eq&&fits ti.sU a&&fits ti.sU b)<|
   match op with
   |.eql=>K (.bool (eqs a b))
   |.neq=>K (.bool (!(eqs a b)))
   |_=>False
  |none=>False
 |_,_=>False
def Mx(T:iG)(s d:TypeId)(x:D)(K:D->Prop):Prop:=
 match T.get s,T.get d with
 |some ⟨.int _,_,_,_,_,_⟩,some ⟨.int k,_,_,_,_,_⟩=>match x with
  |.int _ n=>K (.int k (k.wrap n))
  |_=>False
 |some ⟨.string,_,_,_,_,_⟩,some ⟨.string,_,_,_,_,_⟩=>match x with
  |.str s=>K (.str s)
  |_=>False
 |_,_=>False
def QD(T:iG)(s:TypeId)(f:Nat):Option (Nat×TypeId×Nat):=
 match T.get s with
 |some ⟨.struct fs,_,_,_,_,_⟩=>fs[f]?
 |_=>none
def Fz(place:Nat->Option (Nat×Nat))(ev:Operand->D):List (Nat×Operand)->List D->(List D->Prop)->Prop
 |[],cs,K=>D.j7 cs K
 |(i,x)::ps,cs,K=>match place i with
  |some (off,n)=>cv ((ev x).isVal&&bX (ev x).cells.length n&&gD (off+n) cs.length) (Fz place ev ps (kX cs off (ev x).cells) K)
  |none=>False
def D.QL:D->D|.sl a b _=>.sl a b false|d=>d
def Hq:List D->List D
 |[]=>[]
 |d::l=>d.QL::Hq l
def FB(n len:Nat)(ev:Operand->D):List (Nat×Operand)->List (List D)->(List (List D)->Prop)->Prop
 |[],es,K=>K es
 |(i,x)::ps,es,K=>cv (((ev x).isVal&&(Hq (ev x).cells).all D.plain)&&bX (Hq (ev x).cells).length n&&bN i len) (FB n len ev ps (es.set i (Hq (ev x).cells)) K)
def wQ(row:Row):Rows->Nat->(Nat->Rows->Prop)->Prop
 |[],n,K=>K n [some row]
 |x::l,n,K=>wQ row l (n+1) λk l=>K k (x::l)
def uO(R:Rows)(row:Row)(K:Nat->Rows->Prop):Prop:=wQ row R 0 K
def ints(e:List D)(off:Nat):Nat->List Int
 |0=>[]
 |n+1=>(e.getD off .dead).toInt::ints e (off+1) n
def ag(e:List D)(off:Nat):Nat->List Bool
 |0=>[]
 |n+1=>(e.getD off .dead).toBool::ag e (off+1) n
def CQ(k:IntKind)(e:List D)(off:Nat):Nat->Bool
 |0=>true
 |n+1=>(e.getD off .dead).isInt k&&CQ k e (off+1) n
def Hg(e:List D)(off:Nat):Nat->Bool
 |0=>true
 |n+1=>(e.getD off .dead).isBool&&Hg e (off+1) n
def Hn(k:IntKind)(l:List Int)(j:Nat):Nat->List D
 |0=>[]
 |n+1=>.int k (l.getD j 0)::Hn k l (j+1) n
def Ho(l:List Bool)(j:Nat):Nat->List D
 |0=>[]
 |n+1=>.bool (l.getD j false)::Ho l (j+1) n
def wS(T:iG)(t:TypeId)(x:D)(R:Rows)(K:D->Rows->Prop):Prop:=
 match T.get t with
 |none=>False
 |some ti=>match x with
  |.ptr r i off=>match R.getD r none with
   |some ⟨box,_,sz,es⟩=>cv (gD (off+ti.size) sz) (uQ (!box) ti (es.get i) off λd=>K d R)
   |none=>False
  |.pa r i off len k n=>match R.getD r none with
   |some ⟨_,_,sz,es⟩=>cv (gD (off+len) sz)<|match ti.kind,k with
    |.int j,some k=>cv (decide (j=k)&&CQ k (es.get i) off len) (K (.int k ((ints (es.get i) off len).getD n 0)) R)
    |.bool,none=>cv (Hg (es.get i) off len) (K (.bool ((ag (es.get i) off len).getD n false)) R)
    |_,_=>False
   |none=>False
  |.iC sz es i off=>cv (gD (off+ti.size) sz) (uQ true ti (es.get i) off λd=>K d R)
  |_=>False
def Hp(T:iG)(t:TypeId)(x d:D)(R:Rows)(K:D->Rows->Prop):Prop:=
 match T.get t with
 |none=>False
 |some ti=>match x with
  |.ptr r i off=>match R.getD r none with
   |some ⟨box,ty,sz,es⟩=>cv (bN 0 ti.size&&d.isVal&&bX d.cells.length ti.size&&gD (off+ti.size) sz)<|match box with
    |true=>D.j7 (kX (es.get i) off d.cells) λe=>tR (R.set r (some ⟨true,ty,sz,.gen [e]⟩)) λR=>K .dead R
    |false=>cv (d.cells.all D.plain) (tR (R.set r (some ⟨false,ty,sz,es.set i (kX (es.get i) off d.cells)⟩)) λR=>K .dead R)
   |none=>False
  |.pa r i off len k n=>match R.getD r none with
   |some ⟨box,ty,sz,es⟩=>cv (box&&gD (off+len) sz)<|match ti.kind,k,d with
    |.int j,some k,.int k' v=>cv (decide (j=k)&&decide (k'=k)&&CQ k (es.get i) off len)<|
     D.j7 (kX (es.get i) off (Hn k ((ints (es.get i) off len).set n v) 0 len)) λe=>tR (R.set r (some ⟨true,ty,sz,.gen [e]⟩)) λR=>K .dead R
    |.bool,none,.bool v=>cv (Hg (es.get i) off len)<|
     D.j7 (kX (es.get i) off (Ho ((ag (es.get i) off len).set n v) 0 len)) λe=>tR (R.set r (some ⟨true,ty,sz,.gen [e]⟩)) λR=>K .dead R
    |_,_,_=>False
   |none=>False
  |_=>False
def U8(T:iG)(t:TypeId)(x:D)(U7:Bool)(n:Int)(R:Rows)(K:D->Rows->Prop):Prop:=
 match T.get t with
 |some ⟨.slice _ iQ,_,_,_,_,_⟩=>match x with
  |.sl sz es _=>cv (bX sz iQ&&bN 0 iQ&&decide (0<=n/\n<es.len)) (K (.iC sz es n.toNat 0) R)
  |.own r o m=>match R.getD r none with
   |some ⟨_,_,sz,_⟩=>cv (bX sz iQ&&bN 0 iQ&&decide (0<=n/\n<m)) (K (.ptr r (o+n.toNat) 0) R)
   |none=>False
  |.all r=>match R.getD r none with
   |some ⟨_,_,sz,es⟩=>cv (bX sz iQ&&bN 0 iQ&&decide (0<=n/\n<es.len)) (K (.ptr r n.toNat 0) R)
   |none=>False
  |_=>False
 |some ⟨.array len e iQ,_,_,_,_,_⟩=>cv (bN 0 iQ&&decide (0<=n/\n<len))<|match x with
  |.ptr r i off=>match U7 with
   |true=>K (.ptr r i (off+n.toNat*iQ)) R
   |false=>match T.get e with
    |some ⟨.int k,_,_,_,_,_⟩=>cv (bX iQ 1) (K (.pa r i off len (some k) n.toNat) R)
    |some ⟨.bool,_,_,_,_,_⟩=>cv (bX iQ 1) (K (.pa r i off len none n.toNat) R)
    |_=>K (.ptr r i (off+n.toNat*iQ)) R
  |.iC sz es i off=>K (.iC sz es i (off+n.toNat*iQ)) R
  |_=>False
 |_=>False
def r8(x:Option Operand)(ev:Operand->D)(n:Int):Option Int:=match x with|none=>some n|some y=>match ev y with|.int _ m=>some m|_=>none
def My(T:iG)(t:TypeId)(x:D)(lo hi:Option Operand)(ev:Operand->D)(R:Rows)(K:D->Rows->Prop):Prop:=
 match T.get t with
 |some ⟨.string,_,_,_,_,_⟩=>match x with
  |.str s=>match r8 lo ev 0,r8 hi ev s.length with
   |some l,some h=>cv (decide (0<=l/\l<=h/\h<=s.length)) (K (.str ((s.drop l.toNat).take (h.toNat-l.toNat))) R)
   |_,_=>False
  |_=>False
 |some ⟨.slice _ iQ,_,_,_,_,_⟩=>match x with
  |.sl sz es fr=>match r8 lo ev 0,r8 hi ev es.len with
   |some l,some h=>cv (bX sz iQ&&bN 0 iQ&&decide (0<=l/\l<=h/\h<=es.len)) (K (.sl sz ((es.drop l.toNat).take (h.toNat-l.toNat)) fr) R)
   |_,_=>False
  |.all r=>match R.getD r none with
   |some ⟨_,_,sz,es⟩=>match r8 lo ev 0,r8 hi ev es.len with
    |some l,some h=>cv (bX sz iQ&&bN 0 iQ&&decide (0<=l/\l<=h/\h<=es.len)) (K (.own r l.toNat (h.toNat-l.toNat)) R)
    |_,_=>False
   |none=>False
  |.own r o n=>match R.getD r none with
   |some ⟨_,_,sz,_⟩=>match r8 lo ev 0,r8 hi ev n with
    |some l,some h=>cv (bX sz iQ&&bN 0 iQ&&decide (0<=l/\l<=h/\h<=n)) (K (.own r (o+l.toNat) (h.toNat-l.toNat)) R)
    |_,_=>False
   |none=>False
  |_=>False
 |some ⟨.array len e iQ,_,_,_,_,_⟩=>match x,lo,hi with
  |.iC sz es i off,none,none=>match T.get e with
   |some ⟨.int k,_,_,_,_,_⟩=>cv (bX iQ 1&&(gD (off+len) sz&&CQ k (es.get i) off len)) (K (.sl 1 (.ints k (ints (es.get i) off len)) false) R)
   |_=>False
  |_,_,_=>False
 |_=>False
def uT(T:iG)(t:TypeId)(n m:Int)(R:Rows)(K:D->Rows->Prop):Prop:=
 match T.get t with
 |some ⟨.slice e _,_,_,_,_,_⟩=>match T.get e with
  |some ⟨_,sz,lH,_,some z,_⟩=>cv (bN 0 sz&&bX z.length sz&&z.all D.plain&&decide (0<=n/\n<=m/\m<=9223372036854775807/\(lH:Int)*m<=140737488355328))
   (uO R ⟨false,e,sz,ai.FA e n.toNat z⟩ λk R=>K (.all k) R)
  |_=>False
 |_=>False
def ta(T:iG)(t:TypeId)(x:D)(R:Rows)(K:D->Rows->Prop):Prop:=
 match T.get t with
 |some ⟨.string,_,_,_,_,_⟩=>match x with
  |.str s=>K (.int .i64 s.length) R
  |_=>False
 |some ⟨.slice _ _,_,_,_,_,_⟩=>match x with
  |.sl _ es _=>K (.int .i64 es.len) R
  |.own _ _ n=>K (.int .i64 n) R
  |.all r=>match R.getD r none with
   |some ⟨_,_,_,es⟩=>K (.int .i64 es.len) R
   |none=>False
  |.de=>K (.int .i64 0) R
  |.emp=>K (.int .i64 0) R
  |_=>False
 |_=>False
def Mz(T:iG)(t:TypeId)(parts:List (Nat×Operand))(ev:Operand->D)(R:Rows)(K:D->Rows->Prop):Prop:=
 match T.get t with
 |some ⟨.struct fs,_,_,_,some ds,_⟩=>cv (fs.all λf=>bN 0 f.2.2)<|Fz (λi=>(fs[i]?).map λf=>(f.1,f.2.2)) ev parts ds λcs=>K (.agg cs) R
 |some ⟨.array _ _ iQ,_,_,_,some ds,_⟩=>cv (bN 0 iQ)<|Fz (λi=>some (i*iQ,iQ)) ev parts ds λcs=>K (.agg cs) R
 |_=>False
def MA(T:iG)(t:TypeId)(len:Nat)(parts:List (Nat×Operand))(ev:Operand->D)(R:Rows)(K:D->Rows->Prop):Prop:=
 match T.get t with
 |some ⟨.slice e _,_,_,_,_,_⟩=>match T.get e with
  |some ⟨_,sz,_,_,some z,_⟩=>cv (bN 0 sz&&bX z.length sz&&gD (len*sz) 16777216&&z.all D.plain)<|
   FB sz len ev parts (cO len z) λes=>match len with|0=>K .emp R|_+1=>K (.sl sz (ai.QN e es) true) R
  |_=>False
 |_=>False
def UZ(t:TypeId)(len:Nat):Bool:=gD 2 len&&FK.any λq=>bX q t
def Z13(T:iG)(t:TypeId)(len:Nat)(parts:List (Nat×Operand))(ev:Operand->D)(R:Rows)(K:D->Rows->Prop):Prop:=
 match T.get t with
 |some ⟨.slice e _,_,_,_,_,_⟩=>match T.get e with
  |some ⟨_,sz,_,_,some z,_⟩=>cv (bN 0 sz&&bX z.length sz&&gD (len*sz) 16777216&&z.all D.plain)<|
   FB sz len ev parts (cO len z) λes=>uO R ⟨false,e,sz,ai.QN e es⟩ λk R=>K (.all k) R
  |_=>False
 |_=>False
def HB(T:iG)(t:TypeId)(len:Nat)(parts:List (Nat×Operand))(ev:Operand->D)(R:Rows)(K:D->Rows->Prop):Prop:=
 Aj (UZ t len) (Z13 T t len parts ev R K) (MA T t len parts ev R K)
def Hh:iJ->Option (Nat×Nat×Nat)|.ptr r i off=>some (r,i,off)|_=>none
def P5:List iJ->Option (List (Nat×Nat×Nat))
 |[]=>some []
 |x::l=>match Hh x,P5 l with|some p,some ps=>some (p::ps)|_,_=>none
def CS:D->Option iJ
 |.ptr r i off=>some (.ptr r i off)
 |.int k n=>some (.int k n)
 |.all r=>some (.arr r)
 |.sl a b fr=>some (.sl a b fr)
 |.gx f cs=>match P5 cs with|some ps=>some (.fn f ps)|none=>none
 |_=>none
def KB:List D->Option (List iJ)
 |[]=>some []
 |d::l=>match CS d,KB l with|some x,some xs=>some (x::xs)|_,_=>none
def im(T:iG)(o:Op)(ev:Operand->D)(R:Rows)(K:D->Rows->Prop):Prop:=
 match o with
 |.move x|.assign x=>(ev x).force λd=>K d R
 |.alloc t=>match T.get t with
  |some ⟨_,sz,_,_,some ds,_⟩=>cv (bN 0 sz&&bX ds.length sz) (uO R ⟨true,t,sz,.gen [ds]⟩ λk R=>K (.ptr k 0 0) R)
  |_=>False
 |.box t x=>match T.get t with
  |some ⟨_,sz,_,_,_,_⟩=>cv (bN 0 sz&&(ev x).isVal&&bX (ev x).cells.length sz) (D.j7 (ev x).cells λcs=>uO R ⟨true,t,sz,.gen [cs]⟩ λk R=>K (.ptr k 0 0) R)
  |none=>False
 |.build t parts=>Mz T t parts.toList ev R K
 |.buildSlice t len parts=>HB T t len parts.toList ev R K
 |.load t a=>wS T t (ev a) R K
 |.store t a x=>Hp T t (ev a) (ev x) R K
 |.nilCheck x=>match ev x with
  |.ptr a b c=>K (.ptr a b c) R
  |.iC a b c d=>K (.iC a b c d) R
  |_=>False
 |.binOp op t x y _=>sV T op t (ev x) (ev y) λd=>K d R
 |.unOp op _ x=>match op,ev x with
  |.neg,.int k n=>K (.int k (k.wrap (0-n))) R
  |.xor,.int k n=>K (.int k (rP k (if k.signed then-1 else k.max) n)) R
  |.not,.bool b=>K (.bool (!b)) R
  |_,_=>False
 |.convert s d x=>Mx T s d (ev x) λv=>K v R
 |.fieldAddr s x f=>match QD T s f with
  |some (o,_,n)=>cv (bN 0 n)<|match ev x with
   |.ptr r i off=>K (.ptr r i (off+o)) R
   |.iC sz es i off=>K (.iC sz es i (off+o)) R
   |_=>False
  |none=>False
 |.field s x f=>match QD T s f with
  |some (o,t,n)=>match ev x,T.get t with
   |.agg cs,some ti=>cv (bN 0 n&&gD (o+n) cs.length)<|match ti.kind.isAgg with
    |true=>D.j7 ((cs.drop o).take n) λl=>K (.agg l) R
    |false=>cv (cs.getD o .dead).u6 ((cs.getD o .dead).force λd=>K d R)
   |_,_=>False
  |none=>False
 |.indexAddr t x ix=>match ev ix with
  |.int _ n=>U8 T t (ev x) (match ix with|.const _=>true|_=>false) n R K
  |_=>False
 |.index t x ix=>match T.get t,ev x,ev ix with
  |some ⟨.string,_,_,_,_,_⟩,.str s,.int _ n=>cv (decide (0<=n/\n<s.length)) (K (.int .u8 ((s.getD n.toNat 0).toNat:Int)) R)
  |some ⟨.array len e iQ,_,_,_,_,_⟩,.agg cs,.int _ n=>cv (bX iQ 1&&(bX cs.length len&&decide (0<=n/\n<len)))<|match T.get e with
   |some ⟨.int k,_,_,_,_,_⟩=>cv (CQ k cs 0 len) (K (.int k ((ints cs 0 len).getD n.toNat 0)) R)
   |some ⟨.bool,_,_,_,_,_⟩=>cv (Hg cs 0 len) (K (.bool ((ag cs 0 len).getD n.toNat false)) R)
   |_=>False
  |_,_,_=>False
 |.extract x i=>match ev x with
  |.ee ds=>cv (ds.getD i .dead).isVal ((ds.getD i .dead).force λd=>K d R)
  |_=>False
 |.slice t x lo hi none=>My T t (ev x) lo hi ev R K
 |.makeSlice t l c=>match ev l,ev c with
  |.int _ n,.int _ m=>uT T t n m R K
  |_,_=>False
 |.call {callee:=.builtin .len,args,argTypes}=>match args.toList,argTypes.toList with
  |[x],[t]=>ta T t (ev x) R K
  |_,_=>False
 |.makeFunc fn first captured=>match fn with
  |.func f=>cv (bX first.size 0&&bN f YB)<|match KB (captured.toList.map ev)with
   |some cs=>K (.gx f cs) R
   |none=>False
  |_=>False
 |_=>False
def pos(r:Nat):List Nat->Nat->Nat
 |[],k=>k
 |x::l,k=>match bX x r with|true=>k|false=>pos r l (k+1)
def cw(r:Nat):List Nat->Bool
 |[]=>false
 |x::l=>match bX x r with|true=>true|false=>cw r l
def pL:List Nat->List Nat->Bool
 |[],_=>true
 |x::l,m=>match cw x m with|true=>pL l m|false=>false
def nW:List Nat->List Nat->Bool
 |[],_=>true
 |x::l,m=>match cw x m with|true=>false|false=>nW l m
def lz:List Nat->List Nat->List Nat
 |ids,[]=>ids
 |ids,x::l=>match cw x ids with|true=>lz ids l|false=>lz (ids++[x]) l
def CV:List Nat->Bool
 |[]=>true
 |x::l=>match cw x l with|true=>false|false=>CV l
def CN:iJ->List Nat|.ptr r _ _=>[r]|.arr r=>[r]|.fn _ ps=>ps.map (·.1)|_=>[]
def oE:List iJ->List Nat
 |[]=>[]
 |x::l=>CN x++oE l
def iJ.jl(f:Nat->Nat)(ed:Bool):iJ->iJ
 |.ptr r i off=>.ptr (f r) i off
 |.int k n=>.int k n
 |.arr r=>.arr (f r)
 |.sl a b fr=>.sl a b (fr&&ed)
 |.fn g ps=>.fn g (ps.map λp=>(f p.1,p.2))
def nV:D->List Nat|.gx _ cs=>oE cs|.gr r=>[r]|.all r=>[r]|.own r _ _=>[r]|.ptr r _ _=>[r]|.pa r _ _ _ _ _=>[r]|_=>[]
def Qd:List D->List Nat
 |[]=>[]
 |d::l=>nV d++Qd l
def Fq:D->List Nat|.agg cs=>Qd cs|d=>nV d
def D.ez(ks:List Nat):D->D
 |.all r=>match cw r ks with|true=>.dead|false=>.all r
 |.own r o n=>match cw r ks with|true=>.dead|false=>.own r o n
 |.ptr r i off=>match cw r ks with|true=>.dead|false=>.ptr r i off
 |.pa r i off l k n=>match cw r ks with|true=>.dead|false=>.pa r i off l k n
 |.gr r=>match cw r ks with|true=>.dead|false=>.gr r
 |.gx f cs=>match nW (oE cs) ks with|true=>.gx f cs|false=>.dead
 |d=>d
def D.kF(ks:List Nat):List D->List D
 |[]=>[]
 |d::l=>d.ez ks::kF ks l
def D.kill(ks:List Nat):D->D
 |.agg cs=>.agg (D.kF ks cs)
 |d=>d.ez ks
def D.pX(ks:List Nat):List D->List D
 |[]=>[]
 |d::l=>d.kill ks::pX ks l
def D.gy(ks:List Nat):D->D
 |.ee ds=>.ee (D.pX ks ds)
 |d=>d.kill ks
def Row.kill(ks:List Nat):Row->Row
 |⟨true,ty,sz,.gen [e]⟩=>⟨true,ty,sz,.gen [D.kF ks e]⟩
 |r=>r
def r6(ks:List Nat):Rows->Nat->Rows
 |[],_=>[]
 |x::l,i=>(match cw i ks with|true=>none|false=>match x with|some row=>some (row.kill ks)|none=>none)::r6 ks l (i+1)
def Gq(ks:List Nat):List (Nat×D)->(List (Nat×D)->Prop)->Prop
 |[],K=>K []
 |(t,d)::l,K=>(d.gy ks).force λd=>Gq ks l λl=>K ((t,d)::l)
def pB(s:List UInt8):List Int:=s.map λb=>(b.toNat:Int)
def bytesOf(l:List Int):List UInt8:=l.map λn=>UInt8.ofNat n.toNat
def sB(R:Rows):D->Option (Nat×ai)
 |.de=>some (0,.gen [])
 |.emp=>some (0,.gen [])
 |.sl sz es _=>some (sz,es)
 |.all r=>match R.getD r none with|some ⟨false,_,sz,es⟩=>some (sz,es)|_=>none
 |.own r o n=>match R.getD r none with|some ⟨false,_,sz,es⟩=>some (sz,(es.drop o).take n)|_=>none
 |_=>none
def CF(R:Rows)(ke kx:TK)(y:D):Option (Nat×ai):=
 match kx with
 |.slice _ _=>sB R y
 |.string=>match ke,y with
  |.int .u8,.str s=>some (1,.ints .u8 (pB s))
  |_,_=>none
 |_=>none
def Io:ai->Bool|.gen []=>true|_=>false
def Z6(e sz lH:Nat)(R:Rows)(ks:List Nat)(es ys:ai)(K:List Nat->D->Rows->Prop):Prop:=
 cv (decide (lH*(es.len+ys.len)<=140737488355328))<|tR (r6 ks R 0++[some ⟨false,e,sz,es.app ys⟩]) λR'=>K ks (.all R.length) R'
def Mj (T:iG)(M:Nat)(t tx:TypeId)(x y:D)(R:Rows)(K:List Nat->D->Rows->Prop):Prop:=
 match T.get t with
 |some ⟨.slice e iQ,_,_,_,_,_⟩=>match T.get e,T.get tx with
  |some ⟨ke,sz,lH,_,some z,_⟩,some ⟨kx,_,_,_,_,_⟩=>match CF R ke kx y with
   |some (sy,ys)=>cv ((bN 0 sz&&bX iQ sz)&&(bX z.length sz&&z.all D.plain)&&(bN 0 lH&&(bX sy sz||Io ys)))<|
    match x with
    |.de=>Z6 e sz lH R [] (.gen []) ys K
    |.emp=>Z6 e sz lH R [] (.gen []) ys K
    |.all r=>match R.getD r none with
     |some ⟨false,ty,s,es⟩=>cv ((bX s sz&&bX ty e)&&gD M r) (Z6 e sz lH R [r] es ys K)
     |_=>False
    |.own r o n=>match R.getD r none with
     |some ⟨false,ty,s,es⟩=>cv ((bX s sz&&bX ty e)&&(gD M r&&bX o 0)) (Z6 e sz lH R [r] (es.take n) ys K)
     |_=>False
    |_=>False
   |none=>False
  |_,_=>False
 |_=>False
def uc(T:iG)(t tx:TypeId)(x y:D)(R:Rows)(K:D->Rows->Prop):Prop:=
 match T.get t with
 |some ⟨.slice e iQ,_,_,_,_,_⟩=>match T.get e,T.get tx with
  |some ⟨ke,sz,_,_,_,_⟩,some ⟨kx,_,_,_,_,_⟩=>match CF R ke kx y with
   |some (sy,ys)=>cv ((bN 0 sz&&bX iQ sz)&&(bX sy sz||Io ys))<|
    match x with
    |.all r=>match R.getD r none with
     |some ⟨false,ty,s,es⟩=>cv (bX s sz)<|tR (R.set r (some ⟨false,ty,s,(ys.take (min ys.len es.len)).app (es.drop (min ys.len es.len))⟩)) λR'=>K (.int .i64 (min ys.len es.len:Nat)) R'
     |_=>False
    |.own r o n=>match R.getD r none with
     |some ⟨false,ty,s,es⟩=>cv (bX s sz)<|tR (R.set r (some ⟨false,ty,s,((es.take o).app (ys.take (min ys.len n))).app (es.drop (o+min ys.len n))⟩)) λR'=>K (.int .i64 (min ys.len n:Nat)) R'
     |_=>False
    |_=>False
   |none=>False
  |_,_=>False
 |_=>False
inductive Ans where
 |no
 |ok (res:D) (rows:List Row)
 |when (p:Prop) (res:D) (rows:List Row)
 |abs (α:Type) (v:α) (res:α->D) (rows:α->List Row)
 |lB (p:Prop) (α:Type) (v:α) (res:α->D) (rows:α->List Row)
structure bc where
 f:FuncId
 refs:List Bool
 flat:Bool
 m:List D->List Row->Ans
 gone:Option Nat
 pw:Bool
def oV:List bc->FuncId->Option bc
 |[],_=>none
 |x::l,f=>match bX x.f f with|true=>some x|false=>oV l f
def Fp(R:Rows):D->Option D
 |.bool b=>some (.bool b)
 |.int k n=>some (.int k n)
 |.str s=>some (.str s)
 |.iO=>some .iO
 |.jN=>some .jN
 |.de=>some (.sl 0 (.gen []) false)
 |.emp=>some (.sl 0 (.gen []) false)
 |.sl a b _=>some (.sl a b false)
 |.all r=>match R.getD r none with|some row=>(match row.box with|false=>some (.sl row.sz row.es false)|true=>none)|none=>none
 |.own r o n=>match R.getD r none with|some row=>(match row.box with|false=>some (.sl row.sz ((row.es.drop o).take n) false)|true=>none)|none=>none
 |_=>none
def Jw(R:Rows):List D->Option (List D)
 |[]=>some []
 |d::ds=>match Fp R d,Jw R ds with|some x,some xs=>some (x::xs)|_,_=>none
def conv(R:Rows):D->Option D
 |.agg cs=>(Jw R cs).map .agg
 |d=>Fp R d
def D.mC(f:Nat->Nat)(ed:Bool):D->D
 |.all r=>.all (f r)
 |.own r o n=>.own (f r) o n
 |.ptr r i off=>.ptr (f r) i off
 |.pa r i off l k n=>.pa (f r) i off l k n
 |.sl a b fr=>.sl a b (fr&&ed)
 |.gx g cs=>.gx g (cs.map (iJ.jl f ed))
 |.gr r=>.gr (f r)
 |d=>d
def D.mF(f:Nat->Nat)(ed:Bool):List D->List D
 |[]=>[]
 |d::l=>d.mC f ed::mF f ed l
def D.jl(f:Nat->Nat)(ed:Bool):D->D
 |.agg cs=>.agg (D.mF f ed cs)
 |d=>d.mC f ed
def D.AJ(f:Nat->Nat)(ed:Bool):List D->List D
 |[]=>[]
 |d::l=>d.jl f ed::AJ f ed l
def D.sX(f:Nat->Nat)(ed:Bool):D->D
 |.ee ds=>.ee (D.AJ f ed ds)
 |d=>d.jl f ed
def Row.jl(f:Nat->Nat)(ed:Bool):Row->Row
 |⟨true,ty,sz,.gen [e]⟩=>⟨true,ty,sz,.gen [D.mF f ed e]⟩
 |r=>r
def CM(R:Rows):List Nat->List Nat
 |[]=>[]
 |r::l=>(match R.getD r none with|some ⟨true,_,_,.gen [e]⟩=>Qd e|_=>[])++CM R l
def Qr:List Bool->List D->List Nat
 |true::bs,d::ds=>Fq d++Qr bs ds
 |false::bs,_::ds=>Qr bs ds
 |_,_=>[]
def lM:List Bool->List D->List Nat
 |true::bs,_::ds=>lM bs ds
 |false::bs,d::ds=>Fq d++lM bs ds
 |[],d::ds=>Fq d++lM [] ds
 |_,[]=>[]
def mA(R:Rows)(bs:List Bool)(args:List D):List Nat:=
 let a:=lz [] (Qr bs args)
 let b:=lz a (CM R a)
 lz b (CM R b)
def Bo(R:Rows)(f:Nat->Nat):List Nat->Option (List Row)
 |[]=>some []
 |r::l=>match R.getD r none,Bo R f l with
  |some row,some rs=>some (row.jl f false::rs)
  |_,_=>none
def sT(R:Rows)(f:Nat->Nat):List Bool->List D->Option (List D)
 |true::bs,d::ds=>match d.isVal,sT R f bs ds with|true,some xs=>some (d.jl f false::xs)|_,_=>none
 |false::bs,d::ds=>match conv R d,sT R f bs ds with|some x,some xs=>some (x::xs)|_,_=>none
 |[],d::ds=>match conv R d,sT R f [] ds with|some x,some xs=>some (x::xs)|_,_=>none
 |_,[]=>some []
def bk(ids:List Nat)(n0 i:Nat):Nat:=match ids[i]? with|some r=>r|none=>n0+(i-ids.length)
def tS(f:Nat->Nat):List Nat->List Row->Rows->Rows
 |r::ids,row::rows,R=>tS f ids rows (R.set r (some (row.jl f true)))
 |_,_,R=>R
def Bs(f:Nat->Nat)(rows:List Row):Rows:=rows.map λrow=>some (row.jl f true)
inductive Ex where
 |normal|exit (id:Nat)|ret
def St.put(N:Nat)(st:St)(dst:Option Tmp)(d:D)(R:Rows)(K:St->Prop):Prop:=
 match dst with
 |none=>K ⟨st.env,R⟩
 |some t=>cv (bN t N) (K ⟨(t,d)::st.env,R⟩)
def St.j0(st:St)(c:Operand)(b:Bool):St:=
 match c with
 |.tmp t=>⟨(t,.bool b)::st.env,st.rows⟩
 |_=>st
def Ei(R:Rows)(ids:List Nat)(res:D)(aj:List Row)(K:D->Rows->Prop):Prop:=
 cv (gD ids.length aj.length)<|(res.sX (bk ids R.length) true).force λres=>
  tR (tS (bk ids R.length) ids aj R++Bs (bk ids R.length) (aj.drop ids.length)) λR=>K res R
def sY(G:List bc)(f:FuncId)(args:List D)(R:Rows)(K:D->Rows->Prop):Prop:=
 match oV G f with
 |some x=>
  match sT R (λr=>pos r (mA R x.refs args) 0) x.refs args,Bo R (λr=>pos r (mA R x.refs args) 0) (mA R x.refs args)with
  |some az,some rows=>
   cv ((x.flat&&(match mA R x.refs args with|[]=>true|_=>false)||(match lM x.refs args with|[]=>true|_=>false))&&
    (pL (Qr x.refs args) (mA R x.refs args)&&pL (CM R (mA R x.refs args)) (mA R x.refs args))&&
    (CV (mA R x.refs args)&&nW (lM x.refs args) (mA R x.refs args)))<|
   match x.m az rows with
   |.ok res aj=>Ei R (mA R x.refs args) res aj K
   |.when p res aj=>p/\Ei R (mA R x.refs args) res aj K
   |.abs _ v res aj=>∀X,X=v->Ei R (mA R x.refs args) (res X) (aj X) K
   |.lB p _ v res aj=>p/\∀X,X=v->Ei R (mA R x.refs args) (res X) (aj X) K
   |.no=>False
  |_,_=>False
 |none=>False
def pr(G:List bc)(f:FuncId):Option Nat:=match oV G f with|some x=>x.gone|none=>none
def Fm(f:Nat->Nat):List Nat->List Row->Rows->Rows
 |r::ids,row::rows,R=>Fm f ids rows (R.set r (some (row.jl f false)))
 |_,_,R=>R
def PU(f:Nat->Nat)(rows:List Row):Rows:=rows.map λrow=>some (row.jl f false)
def Hb(R:Rows)(MK gid:List Nat)(res:D)(aj:List Row)(K:List Nat->D->Rows->Prop):Prop:=
 cv (gD MK.length aj.length)<|(res.sX (bk MK R.length) false).force λres=>
  tR (Fm (bk MK R.length) MK aj (r6 gid R 0)++PU (bk MK R.length) (aj.drop MK.length)) λR=>K gid res R
def H2(G:List bc)(M:Nat)(f:FuncId)(k:Nat)(args:List D)(R:Rows)(K:List Nat->D->Rows->Prop):Prop:=
 match oV G f with
 |some x=>
  match sT R (λr=>pos r (mA R x.refs args) 0) x.refs args,Bo R (λr=>pos r (mA R x.refs args) 0) (mA R x.refs args)with
  |some az,some rows=>
   cv (((match lM x.refs args with|[]=>true|_=>false)&&(match x.refs with|[]=>false|_=>true))&&
    (pL (Qr x.refs args) (mA R x.refs args)&&pL (CM R (mA R x.refs args)) (mA R x.refs args))&&
    (CV (mA R x.refs args)&&((mA R x.refs args).drop k).all λr=>gD M r))<|
   match x.m az rows with
   |.abs _ v res aj=>∀X,X=v->Hb R ((mA R x.refs args).take k) ((mA R x.refs args).drop k) (res X) (aj X) K
   |.lB p _ v res aj=>p/\∀X,X=v->Hb R ((mA R x.refs args).take k) ((mA R x.refs args).drop k) (res X) (aj X) K
   |_=>False
  |_,_=>False
 |none=>False
def BQ(G:List bc)(f:FuncId):Bool:=match oV G f with|some x=>x.pw|none=>false
def CL(G:List bc)(M:Nat)(f:FuncId)(args:List D)(R:Rows)(K:List Nat->D->Rows->Prop):Prop:=
 match oV G f with
 |some x=>
  match sT R (λr=>r) [] args,Bo R (λr=>pos r (lz [] (lM [] args)) 0) (lz [] (lM [] args))with
  |some az,some rows=>
   cv (((match x.refs with|[]=>true|_=>false)&&rows.all λr=>!r.box)&&(CV (lz [] (lM [] args))&&(pL (lM [] args) (lz [] (lM [] args))&&(lz [] (lM [] args)).all λr=>gD M r)))<|
   match x.m az []with
   |.abs _ v res aj=>∀X,X=v->Hb R [] (lz [] (lM [] args)) (res X) (aj X) K
   |.lB p _ v res aj=>p/\∀X,X=v->Hb R [] (lz [] (lM [] args)) (res X) (aj X) K
   |_=>False
  |_,_=>False
 |none=>False
def QC:D->Bool|.gx _ _=>false|.gr _=>false|.all _=>false|.own _ _ _=>false|.ptr _ _ _=>false|.pa _ _ _ _ _ _=>false|_=>true
def U4:List D->Bool
 |[]=>true
 |d::l=>match QC d with|true=>U4 l|false=>false
def sZ:D->Bool|.agg cs=>U4 cs|d=>QC d
def U5:List D->Bool
 |[]=>true
 |d::l=>match sZ d with|true=>U5 l|false=>false
def uS:D->Bool|.ee ds=>U5 ds|d=>sZ d
def Mw(R:Rows)(res:D)(aj:List Row)(K:D->Rows->Prop):Prop:=
 match aj with
 |[]=>cv (uS res) (res.force λres=>K res R)
 |_=>(res.sX (bk [] R.length) true).force λres=>tR (R++Bs (bk [] R.length) aj) λR=>K res R
def CX:List Nat->Bool|[]=>true|_=>false
def Kw(G:List bc)(f:FuncId)(args:List D)(R:Rows)(K:D->Rows->Prop):Prop:=
 match oV G f with
 |some x=>match x.refs with
  |[]=>match sT R (λr=>r) [] args with
   |some az=>cv (x.flat||CX (lM [] args))<|match x.m az []with
    |.ok res aj=>Mw R res aj K
    |.when p res aj=>p/\Mw R res aj K
    |.abs _ v res aj=>∀X,X=v->Mw R (res X) (aj X) K
    |.lB p _ v res aj=>p/\∀X,X=v->Mw R (res X) (aj X) K
    |.no=>False
   |none=>False
  |_=>sY G f args R K
 |none=>False
def wm(T:iG)(e d:TypeId)(x:D)(R:Rows)(K:D->Prop):Prop:=
 match T.get e,T.get d with
 |some ⟨.int .u8,_,_,_,_,_⟩,some ⟨.string,_,_,_,_,_⟩=>match sB R x with
  |some (s,es)=>match es.toI .u8 with
   |some l=>cv (bX s 1||Io es) (K (.str (bytesOf l)))
   |none=>False
  |none=>False
 |_,_=>False
def ai.Nil:ai->Prop
 |.gen es=>es=[]
 |.ints _ l=>l=[]
 |.ag l=>l=[]
 |.ah _ l=>l=[]
def Kt(T:iG)(t:TypeId)(es:ai)(K:D->Prop):Prop:=
 match T.get t with
 |some ⟨.slice _ _,_,_,_,_,_⟩=>K (.mY es)
 |_=>False
def wj(mx:Bool)(x y:D)(K:D->Prop):Prop:=
 match x,y with
 |.int k a,.int k' b=>cv (decide (k=k')) (K (.int k (match mx with|true=>(if b>a then b else a)|false=>(if b<a then b else a))))
 |_,_=>False
def lR(T:iG)(G:List bc)(N M:Nat)(o:Oper)(st:St)(K:St->Prop):Prop:=
  match o.op with
  | .pick c a b=>match cq st.env c with
    | .bool t=>Aj t ((cq st.env a).force λd=>st.put N o.dst d st.rows K) ((cq st.env b).force λd=>st.put N o.dst d st.rows K)
    |_=>False
  | .call {callee:= .value (.func f),args, .. }=>match pr G f with
    | none=>match BQ G f with
      |false=>Kw G f (args.toList.map (cq st.env)) st.rows λd R=>st.put N o.dst d R K
      |true=>CL G M f (args.toList.map (cq st.env)) st.rows λks d R=>Gq ks st.env λenv=>St.put N ⟨env,R⟩ o.dst d R K
    |some k=>cv (bN f YB)<|H2 G M f k (args.toList.map (cq st.env)) st.rows λks d R=>Gq ks st.env λenv=>St.put N ⟨env,R⟩ o.dst d R K
  | .call {callee:= .value (.tmp t),args, .. }=>match look st.env t with
    | .gx f cs=>match pr G f with
      | none=>match BQ G f with
        |false=>Kw G f (args.toList.map (cq st.env)++cs.map iJ.d) st.rows λd R=>st.put N o.dst d R K
        |true=>False
      |some k=>cv (bN f YB||bX args.size 1)<|H2 G M f k (args.toList.map (cq st.env)++cs.map iJ.d) st.rows λks d R=>Gq ks st.env λenv=>St.put N ⟨env,R⟩ o.dst d R K
    |_=>False
  | .call {callee:= .builtin .append,args,argTypes}=>match args.toList,argTypes.toList with
    |[x,y],[t,tx]=>Mj T M t tx (cq st.env x) (cq st.env y) st.rows λks d R=>Gq ks st.env λenv=>St.put N ⟨env,R⟩ o.dst d R K
    |_,_=>False
  | .call {callee:= .builtin .copy,args,argTypes}=>match args.toList,argTypes.toList with
    |[x,y],[t,tx]=>uc T t tx (cq st.env x) (cq st.env y) st.rows λd R=>st.put N o.dst d R K
    |_,_=>False
  | .call {callee:= .builtin .min,args, .. }=>match args.toList with
    |[x,y]=>wj false (cq st.env x) (cq st.env y) λd=>st.put N o.dst d st.rows K
    |_=>False
  | .call {callee:= .builtin .max,args, .. }=>match args.toList with
    |[x,y]=>wj true (cq st.env x) (cq st.env y) λd=>st.put N o.dst d st.rows K
    |_=>False
  | .convert s d x=>match T.get s with
    |some ⟨.slice e _,_,_,_,_,_⟩=>wm T e d (cq st.env x) st.rows λd=>st.put N o.dst d st.rows K
    |_=>im T (.convert s d x) (cq st.env) st.rows λd R=>st.put N o.dst d R K
  | .binOp op t x y ty=>match op,cq st.env x,cq st.env y with
    | .eql, .sl _ es _, .de=>Kt T t es λd=>st.put N o.dst d st.rows K
    | .eql, .all r, .de=>match st.rows.getD r none with
      |some ⟨_,_,_,es⟩=>Kt T t es λd=>st.put N o.dst d st.rows K
      |none=>False
    |_,_,_=>im T (.binOp op t x y ty) (cq st.env) st.rows λd R=>st.put N o.dst d R K
  |op=>im T op (cq st.env) st.rows λd R=>st.put N o.dst d R K
def mb(T:iG)(G:List bc)(N M:Nat)(ops:Array Oper):List Oper->St->(St->Prop)->Prop
  |[],st,K=>K st
  | o :: l, st,K=>match o.guard with
    |none=>lR T G N M o st λst=>mb T G N M ops l st K
    | some (j,want)=>match(ops[j]?).bind (·.dst) with
      | some g=>match look st.env g with
        | .bool b=>Aj b
            (match want with|true=>lR T G N M o (st.j0 (.tmp g) true) λst=>mb T G N M ops l st K|false=>(st.j0 (.tmp g) true).put N o.dst (.ee []) st.rows λst=>mb T G N M ops l st K)
            (match want with|false=>lR T G N M o (st.j0 (.tmp g) false) λst=>mb T G N M ops l st K|true=>(st.j0 (.tmp g) false).put N o.dst (.ee []) st.rows λst=>mb T G N M ops l st K)
        | .ee []=>st.put N o.dst (.ee []) st.rows λst=>mb T G N M ops l st K
        |_=>False
      |none=>False
def sk(G:List bc):Op->Bool
 |.store _ _ _=>true
 |.call {callee:=.value (.func f),.. }=>match oV G f with|some x=>(match x.refs with|[]=>x.pw|_=>true)|none=>true
 |.call {callee:=.value (.tmp _),.. }=>true
 |.call {callee:=.builtin .append,.. }=>true
 |.call {callee:=.builtin .copy,.. }=>true
 |_=>false
def lh(G:List bc)(o:Op):Bool:=!sk G o
def BD(G:List bc)(ops:Array Oper)(b:Array Nat)(i j:Nat):Bool:=
 match ops[i]?,ops[j]? with
 |some x,some y=>
  (x.apart ops y||(b.getD j 0).testBit i)&&((lh G x.op&&lh G y.op)||(b.getD j 0).testBit i)
 |_,_=>true
def HS(G:List bc)(ops:Array Oper):Bool:=
 let b:=Region.before ops
 (cW ops.size).all λj=>(match ops[j]? with|some o=>o.after.all λe=>!Region.binds .any e||bN e.on j|none=>true)&&(cW j).all λi=>BD G ops b i j
def kZ(ops:Array Oper)(i a:Nat):Bool:=(ops.toList.drop i).all λo=>match o.dst with|some d=>!(bX d a)|none=>true
def mQ:List Operand->List Nat
 |[]=>[]
 |.tmp a::l=>a::mQ l
 |_::l=>mQ l
def pO:Op->Option (List Nat)
 |.assign x=>some (mQ [x])
 |.move x=>some (mQ [x])
 |.extract x _=>some (mQ [x])
 |.nilCheck x=>some (mQ [x])
 |.fieldAddr _ x _=>some (mQ [x])
 |.buildSlice t len parts=>(match UZ t len with|true=>none|false=>some (mQ (parts.toList.map (·.2))))
 |_=>none
def lZ(env:List (Nat×D))(op:Op):Option (List Nat):=
 match pO op with
 |some q=>some q
 |none=>match op with
  |.build _ parts=>some (mQ (parts.toList.map (·.2)))
  |.binOp _ _ x y _=>match cq env x with|.int _ _=>some (mQ [x,y])|.str _=>some (mQ [x,y])|.bool _=>some (mQ [x,y])|_=>none
  |.unOp _ _ x=>some (mQ [x])
  |.convert _ _ x=>match cq env x with|.int _ _=>some (mQ [x])|.str _=>some (mQ [x])|_=>none
  |.field _ x _=>some (mQ [x])
  |.index _ x y=>some (mQ [x,y])
  |.slice _ x (some y) (some z) none=>match cq env x with|.str _=>some (mQ [x,y,z])|_=>none
  |.slice _ x (some y) none none=>match cq env x with|.str _=>some (mQ [x,y])|_=>none
  |.slice _ x none (some z) none=>match cq env x with|.str _=>some (mQ [x,z])|_=>none
  |.indexAddr _ x y=>match cq env x with|.sl _ _ _=>some (mQ [x,y])|_=>none
  |.load _ x=>match cq env x with|.iC _ _ _ _=>some (mQ [x])|_=>none
  |.call {callee:=.builtin .len,args,.. }=>match args.toList with|[x]=>(match cq env x with|.str _=>some (mQ [x])|.sl _ _ _=>some (mQ [x])|_=>none)|_=>none
  |_=>none
def HC:D->Bool|.ptr _ _ _=>true|_=>false
def JS:D->Bool|.emp=>true|.de=>true|_=>false
def Dj(ops:Array Oper)(env:List (Nat×D))(i j:Nat)(op:Op)(l:List Operand):Bool:=
 match op,l with
 |.load _ (.tmp a),.tmp x::_=>kZ ops i a&&(kZ ops j x&&(HC (look env a)&&JS (look env x)))
 |_,_=>false
def pN:D->Bool|.int _ _=>true|.str _=>true|.bool _=>true|.sl _ _ _=>true|.all _=>true|_=>false
def Dk(ops:Array Oper)(env:List (Nat×D))(i:Nat)(op:Op)(dst:Option Nat):Bool:=
 match op,dst with
 |.load _ (.tmp a),some t=>kZ ops i a&&(HC (look env a)&&(kZ ops (i+1) t&&pN (look env t)))
 |_,_=>false
def MF(G:List bc)(ops:Array Oper)(env:List (Nat×D))(i j:Nat):Bool:=
 match ops[i]?,ops[j]? with
 |some x,some y=>(match x.guard,y.guard,x.op,y.op with
  |none,none,.load _ (.tmp a),.store _ (.tmp b) _=>kZ ops i a&&(kZ ops j b&&(match look env a,look env b with|.ptr r _ _,.ptr r' _ _=>!(bX r r')|.iC _ _ _ _,.ptr _ _ _=>true|_,_=>false))
  |none,none,op,.store _ (.tmp b) _=>(match lZ env op with|some q=>(q.all λa=>kZ ops i a)&&(kZ ops j b&&(match look env b with|.ptr _ _ _=>true|_=>false))|none=>false)
  |none,none,op,.call {callee:=.value (.func f),.. }=>(match(match pr G f with|some _=>true|none=>BQ G f)with|true=>false|false=>match lZ env op with|some q=>q.all λa=>kZ ops i a|none=>false)
  |none,none,op,.call {callee:=.builtin .append,args,.. }=>(match pO op with|some q=>(q.all λa=>kZ ops i a&&HC (look env a))&&(match x.dst with|some t=>kZ ops (i+1) t&&HC (look env t)|none=>true)|none=>Dj ops env i j op args.toList||Dk ops env i op x.dst)
  |_,_,_,_=>false)
 |_,_=>false
def uY(ops:Array Oper)(j:Nat):Bool:=
 match ops[j]? with
 |some y=>match y.guard,y.op with
  |none,.alloc _=>(match y.dst with|none=>true|some u=>(cW ops.size).all λk=>bX k j||(match(ops[k]?).bind (·.dst)with|some d=>!(bX d u)|none=>true))
  |_,_=>false
 |none=>false
def wY(G:List bc)(ops:Array Oper)(env:List (Nat×D))(b:Array Nat)(i j:Nat):Bool:=
 match ops[i]?,ops[j]? with
 |some x,some y=>
  (x.apart ops y||(b.getD j 0).testBit i)&&((lh G x.op&&lh G y.op)||(b.getD j 0).testBit i||(MF G ops env i j||uY ops j))
 |_,_=>true
def Rf(G:List bc)(ops:Array Oper)(env:List (Nat×D)):Bool:=
 let b:=Region.before ops
 (cW ops.size).all λj=>(match ops[j]? with|some o=>o.after.all λe=>!Region.binds .any e||bN e.on j|none=>true)&&(cW j).all λi=>wY G ops env b i j
def HI(x:Nat):List Nat->Nat->List Nat
 |l,0=>x::l
 |[],_=>[x]
 |y::l,n+1=>y::HI x l n
def Dv(m:Nat):List Nat->Nat->Nat->Nat
 |[],_,r=>r
 |y::l,k,r=>Dv m l (k+1) (match m.testBit y with|true=>k+1|false=>r)
def Dw:List Oper->Bool
 |[]=>false
 |o::l=>match o.op with|.buildSlice _ 0 _=>true|_=>Dw l
def FU(e:Bool)(op:Op):Bool:=match pO op with|some _=>true|none=>(match op with|.load _ _=>e|_=>false)
def Dx(e:Bool)(ops:Array Oper)(b:Array Nat):List Nat->List Nat->List Nat
 |[],acc=>acc
 |j ::js,acc=>Dx e ops b js (match ops[j]? with
  |some o=>(match o.guard with
   |none=>(match FU e o.op with|true=>HI j acc (Dv (b.getD j 0) acc 0 0)|false=>acc++[j])
   |some _=>acc++[j])
  |none=>acc)
def RU(ops:Array Oper)(b:Array Nat):Bool:=
 (cW ops.size).any λj=>(match ops[j]? with|some y=>(match y.op with|.load _ _=>true|_=>false)|none=>false)&&(cW j).any λi=>(match ops[i]? with|some x=>(match x.op with|.call {callee:=.builtin .append,.. }=>true|_=>false)|none=>false)&&!((b.getD j 0).testBit i)
def VD(ops:Array Oper):List Nat:=Dx (Dw ops.toList||RU ops (Region.before ops)) ops (Region.before ops) (cW ops.size) []
def Vo(p:List Nat)(n:Nat):Bool:=bX p.length n&&(((cW n).all λi=>cw i p)&&((p.all λi=>bN i n)&&CV p))
def Dn(p:List Nat)(e:Edge):Edge:=⟨pos e.on p 0,e.ground⟩
def MH(p:List Nat)(o:Oper):Oper:=⟨o.dst,o.op,o.type,o.pos,o.after.map (Dn p),match o.guard with|none=>none|some (j,w)=>some (pos j p 0,w)⟩
def nF(p:List Nat)(ops:Array Oper):Array Oper:=(p.map λi=>MH p (ops.getD i default)).toArray
def uV(T:iG)(G:List bc)(N M:Nat)(ops:Array Oper)(st:St)(Q:Ex->St->Prop):Prop:=
 match HS G ops with
 |true=>mb T G N M ops ops.toList st λst=>Q .normal st
 |false=>cv (Vo (VD ops) ops.size)<|mb T G N M (nF (VD ops) ops) (nF (VD ops) ops).toList st λst=>cv (Rf G (nF (VD ops) ops) st.env) (Q .normal st)
def Hs(i n:Nat):List D->Option (List D)
 |[]=>none
 |d::l=>match d,l with
  |.iO,.de::m=>some (.gr i:: .all n::m)
  |d,l=>match Hs i n l with|some l'=>some (d::l')|none=>none
def RV(T:iG)(t:TypeId):Bool:=match T.get t with|some ⟨_,_,_,_,some ds,_⟩=>(match Hs 0 0 ds with|some _=>true|none=>false)|_=>false
def u7(T:iG):List Oper->Bool
 |[]=>false
 |o::l=>match o.op with|.alloc t=>(match RV T t with|true=>true|false=>u7 T l)|_=>u7 T l
def RW:iG->Option TypeId
 |[]=>none
 |(u,i)::l=>match i.kind with|.int .u8=>some u|_=>RW l
def Jal(T:iG):Code->Option TypeId
 |.region _ ops _=>(match u7 T ops.toList with|true=>RW T|false=>none)
 |_=>none
def JE(n:Nat):Rows->Nat->Option (Nat×TypeId×Nat×List D)
 |[],_=>none
 |x::l,i=>match x with
  |some ⟨true,ty,sz,.gen [e]⟩=>(match Hs i n e with|some e'=>some (i,ty,sz,e')|none=>JE n l (i+1))
  |_=>JE n l (i+1)
def JF(T:iG)(a:Code)(st:St)(K:St->Prop):Prop:=
 match Jal T a with
 |none=>K st
 |some u=>match JE st.rows.length st.rows 0 with
  |none=>K st
  |some (i,ty,sz,e)=>D.j7 e λe=>tR (st.rows.set i (some ⟨true,ty,sz,.gen [e]⟩)++[some ⟨false,u,1,.ints .u8 []⟩]) λR=>K ⟨st.env,R⟩
def D.BS(R:Rows)(ks:List Nat):D->D
 |.all r=>match cw r ks with
  |true=>(match R.getD r none with|some ⟨false,_,sz,es⟩=>.sl sz es false|_=>.dead)
  |false=>.all r
 |.ptr r i off=>match cw r ks with
  |true=>(match R.getD r none with|some ⟨true,_,sz,.gen [e]⟩=>(match e.all D.plain with|true=>.iC sz (.gen [e]) i off|false=>.dead)|_=>.dead)
  |false=>.ptr r i off
 |d=>d.ez ks
def D.sC(R:Rows)(ks:List Nat):List D->List D
 |[]=>[]
 |d::l=>d.BS R ks::sC R ks l
def D.H6(R:Rows)(ks:List Nat):D->D
 |.agg cs=>.agg (D.sC R ks cs)
 |d=>d.BS R ks
def D.H7(R:Rows)(ks:List Nat):List D->List D
 |[]=>[]
 |d::l=>d.H6 R ks::H7 R ks l
def D.BT(R:Rows)(ks:List Nat):D->D
 |.ee ds=>.ee (D.H7 R ks ds)
 |d=>d.H6 R ks
def Row.mq(R:Rows)(ks:List Nat):Row->Row
 |⟨true,ty,sz,.gen [e]⟩=>⟨true,ty,sz,.gen [D.sC R ks e]⟩
 |r=>r
def Kz(R0:Rows)(ks:List Nat):Rows->Nat->Rows
 |[],_=>[]
 |x::l,i=>(match cw i ks with|true=>none|false=>match x with|some row=>some (row.mq R0 ks)|none=>none)::Kz R0 ks l (i+1)
def Ez(R:Rows)(ks:List Nat):List (Nat×D)->(List (Nat×D)->Prop)->Prop
 |[],K=>K []
 |(t,d)::l,K=>(d.BT R ks).force λd=>Ez R ks l λl=>K ((t,d)::l)
def Dy:List D->List Nat
 |[]=>[]
 |d::l=>(match d with|.all r=>[r]|_=>[])++Dy l
def RX:D->List Nat|.agg cs=>Dy cs|.all r=>[r]|_=>[]
def FV(R:Rows)(n:Nat)(d:D):List Nat:=
 match d with
 |.ptr r _ off=>match R.getD r none with|some ⟨true,_,_,.gen [e]⟩=>Dy ((e.drop off).take n)|_=>[]
 |_=>[]
def HJ:List (Nat×List Nat)->Nat->Option (List Nat)
 |[],_=>none
 |(u,x)::l,t=>match bX u t with|true=>some x|false=>HJ l t
def ML(env:List (Nat×D)):List (Nat×D)->Nat->D
 |[],t=>look env t
 |(u,x)::l,t=>match bX u t with|true=>x|false=>ML env l t
def u9(env:List (Nat×D))(acc:List (Nat×List Nat)):Operand->List Nat
 |.tmp t=>match HJ acc t with|some l=>l|none=>RX (look env t)
 |_=>[]
def w6(env:List (Nat×D))(acc:List (Nat×List Nat)):List Operand->List Nat
 |[]=>[]
 |x::l=>u9 env acc x++w6 env acc l
def J9(T:iG)(env:List (Nat×D))(R:Rows)(acc:List (Nat×List Nat))(pa:List (Nat×D))(o:Oper):List (Nat×List Nat):=
 match o.dst with
 |none=>acc
 |some t=>match o.op with
  |.load ty (.tmp p)=>(t,FV R (match T.get ty with|some i=>i.size|none=>0) (ML env pa p))::acc
  |.move x=>(t,u9 env acc x)::acc
  |.slice _ x _ _ _=>(t,u9 env acc x)::acc
  |_=>acc
def Ka(T:iG)(env:List (Nat×D))(pa:List (Nat×D))(o:Oper):List (Nat×D):=
 match o.dst with
 |none=>pa
 |some t=>match o.op with
  |.fieldAddr s (.tmp p) f=>(match QD T s f with|some (k,_,_)=>(match ML env pa p with|.ptr r i off=>(t,.ptr r i (off+k))::pa|_=>pa)|none=>pa)
  |.move (.tmp p)=>(t,ML env pa p)::pa
  |.nilCheck (.tmp p)=>(t,ML env pa p)::pa
  |_=>pa
def Kb(G:List bc)(f:FuncId):Bool:=match oV G f with|some x=>x.pw||(match x.refs with|[]=>!x.flat|_=>false)|none=>false
def RY(T:iG)(env:List (Nat×D))(pa:List (Nat×D))(t:TypeId)(p:Nat):List Nat:=
 match T.get t with
 |some ⟨.array _ _ _,_,_,_,_,_⟩=>(match ML env pa p with|.ptr r _ _=>[r]|_=>[])
 |_=>[]
def SS(T:iG)(G:List bc)(env:List (Nat×D))(R:Rows):List (Nat×List Nat)->List (Nat×D)->List Oper->List Nat
 |_,_,[]=>[]
 |acc,pa,o::l=>(match o.op with|.call {callee:=.value (.func f),args,.. }=>(match Kb G f with|true=>w6 env acc args.toList|false=>[])|.slice t (.tmp p) _ _ _=>RY T env pa t p|_=>[])++SS T G env R (J9 T env R acc pa o) (Ka T env pa o) l
def ur(M:Nat)(R:Rows):List Nat->List Nat
 |[]=>[]
 |r::l=>match gD M r&&(match R.getD r none with|some ⟨false,_,_,_⟩=>true|some ⟨true,_,_,.gen [e]⟩=>e.all D.plain|_=>false)with|true=>r::ur M R l|false=>ur M R l
def H8(T:iG)(G:List bc)(M:Nat)(ops:Array Oper)(st:St)(K:St->Prop):Prop:=
 match ur M st.rows (SS T G st.env st.rows [] [] ops.toList)with
 |[]=>K st
 |ks=>Ez st.rows ks st.env λenv=>tR (Kz st.rows ks st.rows 0) λR=>K ⟨env,R⟩
def uu(T:iG)(R:Rows)(i:Nat):Option (TypeId×Nat×TypeId×Nat):=
 match R.getD i none with
 |some ⟨true,ty,sz,.gen [[d]]⟩=>(match d with
  |.de=>(match T.get ty with|some ⟨.slice e n,_,_,_,_,_⟩=>(match bN 0 n with|true=>some (ty,sz,e,n)|false=>none)|_=>none)
  |.emp=>(match T.get ty with|some ⟨.slice e n,_,_,_,_,_⟩=>(match bN 0 n with|true=>some (ty,sz,e,n)|false=>none)|_=>none)
  |_=>none)
 |_=>none
def H9(T:iG):List iJ->List (Nat×D)->Rows->(Rows->Prop)->Prop
 |[],_,R,K=>K R
 |.ptr i _ _::l,env,R,K=>(match uu T R i with
  |some (ty,sz,e,n)=>uO R ⟨false,e,n,.gen []⟩ λk R=>tR (R.set i (some ⟨true,ty,sz,.gen [[.all k]]⟩)) λR=>H9 T l env R K
  |none=>H9 T l env R K)
 |_::l,env,R,K=>H9 T l env R K
def VE(env:List (Nat×D)):List Operand->List iJ
 |[]=>[]
 |.tmp t::l=>(match look env t with|.ptr i o f=>.ptr i o f::VE env l|_=>VE env l)
 |_::l=>VE env l
def w7(env:List (Nat×D)):List Oper->List iJ
 |[]=>[]
 |o::l=>(match o.op with|.makeFunc _ _ captured=>VE env captured.toList|_=>[])++w7 env l
def splitAt:List (Nat×Nat)->Nat->Option Nat
 |[],_=>none
 |(g,i)::l,f=>match bX g f with|true=>some i|false=>splitAt l f
def Zpm:List (Nat×Operand)->Nat->Operand
 |[],t=>.tmp t
 |(s,x)::l,t=>match bX s t with|true=>x|false=>Zpm l t
def VF:List (Nat×Operand)->List Oper->Option Operand
 |_,[]=>none
 |mv,o::l=>match o.op with
  |.call {callee:=.value (.func f),args,.. }=>(match splitAt splits f with
   |some i=>(match args.toList[i]? with|some (.tmp t)=>some (Zpm mv t)|_=>none)
   |none=>VF mv l)
  |.move x=>VF (match o.dst with|some t=>(t,x)::mv|none=>mv) l
  |_=>VF mv l
def uW(ops:List Oper)(st:St)(K:St->Prop):Prop:=
 match VF [] ops with
 |none=>K st
 |some x=>match cq st.env x with
  |.bool t=>Aj t (K (st.j0 x true)) (K (st.j0 x false))
  |_=>K st
def px(T:iG)(G:List bc)(N M:Nat)(L:Code->St->(Ex->St->Prop)->Prop):Code->St->(Ex->St->Prop)->Prop
 |.skip,st,Q=>Q .normal st
 |.label _,st,Q=>Q .normal st
 |.region _ ops draw,st,Q=>uW ops.toList st λst=>H9 T (w7 st.env ops.toList) st.env st.rows λR=>H8 T G M ops ⟨st.env,R⟩ λst=>match draw with|true=>uV T G N M ops st Q|false=>mb T G N M ops ops.toList st λst=>Q .normal st
 |.seq a b,st,Q=>px T G N M L a st λe st=>match e with|.normal=>JF T a st λst=>px T G N M L b st Q|.exit i=>Q (.exit i) st|.ret=>Q .ret st
 |.cond c a b,st,Q=>match cq st.env c with
  |.bool t=>Aj t (px T G N M L a (st.j0 c true) Q) (px T G N M L b (st.j0 c false) Q)
  |.mY es=>(es.Nil->px T G N M L a (st.j0 c true) Q)/\px T G N M L b (st.j0 c false) Q
  |_=>False
 |.block id c,st,Q=>px T G N M L c st λe st=>match e with|.normal=>Q .normal st|.exit i=>(match bX i id with|true=>Q .normal st|false=>Q (.exit i) st)|.ret=>Q .ret st
 |.exit id,st,Q=>Q (.exit id) st
 |.ret,st,Q=>Q .ret st
 |.scope c,st,Q=>px T G N M L c st Q
 |c,st,Q=>L c st Q
def FH(T:iG)(R:Rows)(env:List (Nat×D)):List ResultVar->(List D->Prop)->Prop
 |[],K=>K []
 |.tmp t::l,K=>(look env t).force λd=>cv d.isVal (FH T R env l λds=>K (d::ds))
 |.cell a t::l,K=>wS T t (look env a) R λd _=>cv d.isVal (FH T R env l λds=>K (d::ds))
def kb(ex:List Nat)(i r:Nat):Bool:=match ex[i]? with|some x=>bX x r|none=>false
def KE(ex:List Nat)(r:Nat):Bool:=ex.all λx=>!(bX x r)
def Is(ex:List Nat)(R:Rows)(i:Nat):Bool:=match ex[i]? with|some r=>(match R.getD r none with|none=>true|some _=>false)|none=>false
def ai.Eq:ai->ai->Prop
 |.ints k l,.ints k' m=>match decide (k=k')with|true=>l=m|false=>(ai.ints k l).l=(ai.ints k' m).l
 |.ag l,.ag m=>l=m
 |.gen es,.gen fs=>es=fs
 |.gen [],.ints _ m=>m=[]
 |.gen [],.ag m=>m=[]
 |.gen [],.ah _ m=>m=[]
 |.ah k l,.ah k' m=>(match Gf k k' l with|some l'=>l'=m|none=>(ai.ah k l).l=(ai.ah k' m).l)
 |E,F=>E.l=F.l
theorem ai.Ak{E F:ai}(h:ai.Eq E F):E.l=F.l:=by
 cases E with
 |gen es=>
  cases es with
  |nil=>cases F<;>simp_all [ai.Eq,ai.l]
  |cons e es=>cases F<;>simp_all [ai.Eq,ai.l]
 |ints k l=>
  cases F with
  |ints k' m=>
   simp only[ai.Eq]at h
   split at h
   ·rename_i hk;subst h;rw[oY hk]
   ·exact h
  |_=>exact h
 |ag l=>
  cases F with
  |ag m=>simp only[ai.Eq]at h;rw[h]
  |_=>exact h
 |ah k l=>
  cases F with
  |ah k' m=>
   simp only[ai.Eq]at h
   split at h
   ·rename_i l' hc
    obtain⟨e,hm⟩:=Wr hc
    subst e
    simp only at hm
    rw[<-h,<-hm]
   ·exact h
  |_=>exact h
theorem ai.oz{E:ai}:E.Nil↔E.l=[]:=by
 cases E<;>simp[ai.Nil,ai.l]
def sG(ex:List Nat):List (Nat×Nat×Nat)->List (Nat×Nat×Nat)->Bool
 |[],[]=>true
 |(i,b,c)::l,(r,y,z)::m=>kb ex i r&&(bX b y&&(bX c z&&sG ex l m))
 |_,_=>false
def py(ex:List Nat):List iJ->List iJ->Bool
 |[],[]=>true
 |.ptr i b c::l,.ptr r y z::m=>kb ex i r&&(bX b y&&(bX c z&&py ex l m))
 |.fn f ps::l,.fn g qs::m=>bX f g&&(sG ex ps qs&&py ex l m)
 |_,_=>false
def iT(ex:List Nat)(m:Nat)(R:Rows)(d p:D):Prop:=
 match p with
 |.int k n=>match d with|.int j q=>cv (decide (j=k)) (q=n)|_=>False
 |.bool b=>match d with|.bool a=>a=b|_=>False
 |.str s=>match d with|.str u=>u=s|_=>False
 |.iO=>match d with|.iO=>True|_=>False
 |.jN=>match d with|.jN=>True|_=>False
 |.gx f cs=>match d with|.gx g ds=>cv (bX f g&&py ex cs ds) True|_=>False
 |.ptr i o f=>match d with|.ptr r o' f'=>cv (kb ex i r&&(bX o o'&&bX f f')) True|_=>False
 |.gr i=>match d with|.iO=>True|.gr r=>cv (kb ex i r) True|.ptr r o f=>cv (kb ex i r&&(bX o 0&&bX f 0)) True|_=>False
 |.de=>match d with|.de=>True|_=>False
 |.emp=>match d with|.de=>True|.emp=>True|_=>False
 |.sl sz es fr=>match d with
  |.de=>es.Nil
  |.emp=>es.Nil
  |.sl ka jc fr'=>cv (!fr||fr') ((jc.Nil\/ka=sz)/\ai.Eq jc es)
  |.all r=>match R.getD r none with
   |some ⟨box,_,ka,jc⟩=>cv (!box&&bX ka sz&&KE ex r&&gD m r) (ai.Eq jc es)
   |none=>False
  |.own r o n=>match R.getD r none with
   |some ⟨box,_,ka,jc⟩=>cv (!box&&bX ka sz&&KE ex r&&gD m r) (ai.Eq ((jc.drop o).take n) es)
   |none=>False
  |_=>False
 |.all i=>match d with|.all r=>cv (kb ex i r) True|.de=>cv (Is ex R i) True|.emp=>cv (Is ex R i) True|_=>False
 |.own i o n=>match d with|.own r o' n'=>cv (kb ex i r) (o'=o/\n'=n)|_=>False
 |.dead=>cv d.Hu True
 |_=>False
def DL(ex:List Nat)(m:Nat)(R:Rows):List D->List D->Prop
 |[],[]=>True
 |d::ds,p::ps=>iT ex m R d p/\DL ex m R ds ps
 |_,_=>False
def pz(ex:List Nat)(m:Nat)(R:Rows)(d p:D):Prop:=
 match p with
 |.agg ps=>match d with|.agg ds=>DL ex m R ds ps|_=>False
 |p=>iT ex m R d p
def wy(ex:List Nat)(m:Nat)(R:Rows):List D->List D->Prop
 |[],[]=>True
 |d::ds,p::ps=>pz ex m R d p/\wy ex m R ds ps
 |_,_=>False
def sE(ex:List Nat)(m:Nat)(R:Rows)(d p:D):Prop:=
 match p with
 |.ee ps=>match d with|.ee ds=>wy ex m R ds ps|_=>False
 |p=>pz ex m R d p
def lT(ex:List Nat)(m:Nat)(R:Rows):List Nat->List Row->Prop
 |[],[]=>True
 |r ::rs,⟨box,ty,sz,es⟩::ps=>(match R.getD r none with
  |some ⟨An,jZ,ka,jc⟩=>cv (Bool.xor (!box) An&&bX ty jZ&&bX sz ka) (match box with
   |false=>ai.Eq jc es
   |true=>match jc,es with|.gen [e'],.gen [e]=>DL ex m R e' e|_,_=>False)
  |none=>cv (!box&&bN 0 sz) es.Nil)/\lT ex m R rs ps
 |_,_=>False
def newAt(n0:Nat):List (Nat×Nat)->Nat->Nat
 |[],i=>n0+i
 |(j,r)::l,i=>match bX j i with|true=>r|false=>newAt n0 l i
def news(n0:Nat)(l:List (Nat×Nat)):Nat->Nat->List Nat
 |_,0=>[]
 |i,n+1=>newAt n0 l i::news n0 l (i+1) n
def MC:List Nat->List Nat->Bool
 |[],[]=>true
 |x::l,y::m=>bX x y&&MC l m
 |_,_=>false
def sF(M:Nat)(ex:List Nat):Bool:=(MC (ex.take M) (cW M)&&(ex.drop M).all λr=>gD M r)&&CV (ex.drop M)
def Ap(m:Nat)(res:D)(rows:List Row)(d:D)(R:Rows):Prop:=
 ∃ex,sF m ex=true/\sE ex m R d res/\lT ex m R ex rows
def FG:List D->Nat->List (Nat×D)
 |[],_=>[]
 |d::ds,i=>(i,d)::FG ds (i+1)
def ko(T:iG)(G:List bc)(L:Code->St->(Ex->St->Prop)->Prop)(fn:Func)(args:List D)(rows:List Row)(Q:D->Rows->Prop):Prop:=
 match fn.body with
 |some c=>px T G fn.ntmps rows.length L c ⟨FG args 0,rows.map some⟩ λe st=>match e with
  |.exit _=>False
  |_=>FH T st.rows st.env fn.results.toList λds=>match ds with|[d]=>Q d st.rows|ds=>Q (.ee ds) st.rows
 |none=>False
def oK:List Nat->List D->List (Nat×D)
 |t::ts,d::ds=>(t,d)::oK ts ds
 |_,_=>[]
def AE:List iJ->List Nat
 |[]=>[]
 |.fn f _::l=>f::AE l
 |_::l=>AE l
def AF:D->List Nat|.gx f cs=>f::AE cs|_=>[]
def rK:List D->List Nat
 |[]=>[]
 |d::l=>AF d++rK l
def Fs:D->List Nat|.agg cs=>rK cs|d=>AF d
def oH:List D->List Nat
 |[]=>[]
 |d::l=>Fs d++oH l
def CO:D->List Nat|.ee ds=>oH ds|d=>Fs d
def kL:List Row->List Nat
 |[]=>[]
 |⟨true,_,_,.gen [e]⟩::l=>rK e++kL l
 |_::l=>kL l
def Gr:Rows->List Nat
 |[]=>[]
 |some r::l=>kL [r]++Gr l
 |none::l=>Gr l
def rA(l:List Nat):Bool:=l.all λf=>bN f YB
def Al:List (Nat×D)->List Nat
 |[]=>[]
 |(_,d)::l=>CO d++Al l
def FJ (T:iG)(G:List bc)(L:Code->St->(Ex->St->Prop)->Prop)(fn:Func)(args:List D)(rows:List Row)(Q:D->Rows->Prop)(M:Nat):Prop:=
 match fn.body with
 |some c =>match gD YB fn.nfree with
  |true =>match bX fn.nfree YB with
   |true=>px T G fn.ntmps M L c ⟨oK fn.params.toList args,rows.map some⟩ λe st=>match e with
    |.normal=>Q (.bool true) st.rows
    |_=>False
   |false=>match c with
    |.seq a b=>px T G fn.ntmps M L a ⟨oK fn.params.toList args,rows.map some⟩ λe st=>match e with
     |.normal=>cv (rA (Al st.env++Gr st.rows)) (px T G fn.ntmps M L b st λe st=>match e with
      |.normal=>Q (.bool true) st.rows
      |_=>False)
     |_=>False
    |_=>False
  |false=>px T G fn.ntmps M L c ⟨FG args 0,rows.map some⟩ λe st=>match e with
  |.exit _=>False
  |_=>FH T st.rows st.env fn.results.toList λds=>match ds with|[d]=>Q d st.rows|ds=>Q (.ee ds) st.rows
 |none=>False
