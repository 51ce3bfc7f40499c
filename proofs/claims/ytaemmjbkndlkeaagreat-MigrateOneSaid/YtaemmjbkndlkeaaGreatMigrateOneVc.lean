import Derived.Test.YtaemmjbkndlkeaaGreatMigrateOneFy
open Nat renaming beq->bX,blt->bN,ble->gD
open BitVec renaming ofInt->dR
open List renaming replicate->cO,range->cW
set_option linter.all false
namespace Go.GD
open Go
def cu(b:Bool)(p:Prop):Prop:=match b with|true=>p|false=>False
def wS(b:Bool)(p q:Prop):Prop:=match b with|true=>p|false=>q
theorem de{b:Bool}{p:Prop}:cu b p↔b=true/\p:=by cases b<;>simp[cu]
theorem Yu{b:Bool}{p q:Prop}:wS b p q↔(b=true->p)/\(b=false->q):=by cases b<;>simp[wS]
abbrev Rows:=List (Option Row)
namespace D
def EO(n:Nat):D->Bool|.sl m _ _=>bX m n|.c8=>true|.emp=>true|_=>false
def toEs:D->ah|.sl _ es _=>es|_=>.gen []
def uH:D->Bool|.agg _=>false|.dw _=>false|.dead=>false|_=>true
def isVal:D->Bool|.dw _=>false|.dead=>false|_=>true
def G6:D->Bool|.agg _=>false|.dw _=>false|_=>true
def plain:D->Bool|.bool _=>true|.int _ _=>true|.str _=>true|.iB=>true|.c8=>true|.emp=>true|.sl _ _ _=>true|_=>false
def cells:D->List D|.agg cs=>cs|d=>[d]
def force:D->(D->Prop)->Prop
 |.bool b,K=>K (.bool b)
 |.int k n,K=>K (.int k n)
 |.str s,K=>K (.str s)
 |.sl a b c,K=>K (.sl a b c)
 |.all a,K=>K (.all a)
 |.own a b c,K=>K (.own a b c)
 |.ptr a b c,K=>K (.ptr a b c)
 |.pa a b c d e f,K=>K (.pa a b c d e f)
 |.im a b c d,K=>K (.im a b c d)
 |.iB,K=>K .iB
 |.c8,K=>K .c8
 |.emp,K=>K .emp
 |.mF es,K=>K (.mF es)
 |.dead,K=>K .dead
 |.gk a b,K=>K (.gk a b)
 |.gd a,K=>K (.gd a)
 |.jC,K=>K .jC
 |.agg a,K=>K (.agg a)
 |.dw a,K=>K (.dw a)
end D
def D.jS:List D->(List D->Prop)->Prop
 |[],K=>K []
 |d::l,K=>d.force λd=>jS l λl=>K (d::l)
def tv:Rows->(Rows->Prop)->Prop
 |[],K=>K []
 |d::l,K=>tv l λl=>K (d::l)
inductive pO where
 |int (k:IntKind)|bool|str|sl (n:Nat)|other
inductive TK where
 |int (k:IntKind)|bool|string
 |slice (e:TypeId) (n:Nat)
 |struct (fs:List (Nat×TypeId×Nat))
 |array (len:Nat) (e:TypeId) (n:Nat)
 |other
structure TI where
 kind:TK
 size:Nat
 bytes:Nat
 sx:List pO
 zero:Option (List D)
 eq:Bool
abbrev e7:=List (TypeId×TI)
def e7.get:e7->TypeId->Option TI
 |[],_=>none
 |(u,i)::l,t=>match bX u t with|true=>some i|false=>e7.get l t
def TK.isAgg:TK->Bool|.struct _=>true|.array _ _ _=>true|_=>false
def uq(pl:Bool):pO->D->(D->Prop)->Prop
 |.int k,c,K=>cu (c.isInt k) (K (.int k c.toInt))
 |.bool,c,K=>cu c.isBool (K (.bool c.toBool))
 |.str,c,K=>cu c.isStr (K (.str c.toStr))
 |.sl n,c,K=>match pl with
  |true=>cu (c.EO n) (K (.sl n c.toEs false))
  |false=>cu c.uH (c.force K)
 |.other,c,K=>match pl with
  |true=>match c with|.iB=>K .iB|_=>False
  |false=>cu c.uH (c.force K)
def IX(pl:Bool)(e:List D):List pO->Nat->(List D->Prop)->Prop
 |[],_,K=>K []
 |t::ts,off,K=>uq pl t (e.getD off .dead) λd=>IX pl e ts (off+1) λds=>K (d::ds)
def ur(pl:Bool)(t:TI)(e:List D)(off:Nat)(K:D->Prop):Prop:=
 match t.kind.isAgg with
 |true=>IX pl e t.sx off λds=>K (.agg ds)
 |false=>match t.sx with
  |[y]=>uq pl y (e.getD off .dead) K
  |_=>False
def kJ:List D->Nat->List D->List D
 |e,_,[]=>e
 |e,off,v::vs=>kJ (e.set off v) (off+1) vs
def PE:Value->Option D
 |.bool b=>some (.bool b)
 |.int k n=>some (.int k n)
 |.string s=>some (.str s.data.toList)
 |.slice none 0 0=>some .c8
 |.pointer none=>some .iB
 |.nilIface=>some .jC
 |.nilFunc=>some .dead
 |_=>none
def AU:List Value->Option (List D)
 |[]=>some []
 |v::vs=>match PE v,AU vs with|some d,some ds=>some (d::ds)|_,_=>none
def FG:Value->Option D
 |.agg cs=>(AU cs.toList).map .agg
 |v=>PE v
structure St where
 env:List (Nat×D)
 rows:Rows
def look:List (Nat×D)->Nat->D
 |[],_=>.dead
 |(u,d)::l,t=>match bX u t with|true=>d|false=>look l t
def cj(env:List (Nat×D)):Operand->D
 |.tmp t=>look env t
 |.const v=>(FG v).getD .dead
 |.func f=>match bN f YB with|true=>.gk f []|false=>.dead
 |_=>.dead
def bb(k:IntKind)(x y:Int):Int:=k.wrap (dR k.bits x&&&dR k.bits y).toNat
def iG(k:IntKind)(x y:Int):Int:=k.wrap (dR k.bits x|||dR k.bits y).toNat
def rh(k:IntKind)(x y:Int):Int:=k.wrap (dR k.bits x^^^dR k.bits y).toNat
def oD(k:IntKind)(x y:Int):Int:=k.wrap (dR k.bits x&&&~~~dR k.bits y).toNat
def eu(k:IntKind)(x y:Int):Int:=k.wrap (x*2^(min y.toNat k.bits))
def bc(k:IntKind)(x y:Int):Int:=x.fdiv (2^(min y.toNat k.bits))
def Ul(op:BinOp)(k:IntKind)(x y:Int)(K:D->Prop):Prop:=
 match op with
 |.add=>K (.int k (k.wrap (x+y)))
 |.sub=>K (.int k (k.wrap (x-y)))
 |.mul=>K (.int k (k.wrap (x*y)))
 |.quo=>cu (decide (y≠0)) (K (.int k (k.wrap (x.tdiv y))))
 |.rem=>cu (decide (y≠0)) (K (.int k (x.tmod y)))
 |.and=>K (.int k (bb k x y))
 |.or=>K (.int k (iG k x y))
 |.xor=>K (.int k (rh k x y))
 |.andNot=>K (.int k (oD k x y))
 |.eql=>K (.bool (x==y))
 |.neq=>K (.bool (x !=y))
 |.lss=>K (.bool (decide (x<y)))
 |.leq=>K (.bool (decide (x<=y)))
 |.gtr=>K (.bool (decide (x>y)))
 |.geq=>K (.bool (decide (x>=y)))
 |_=>False
def O4:D->D->Bool
 |.int _ a,.int _ b=>a==b
 |.bool a,.bool b=>a==b
 |.str a,.str b=>decide (a=b)
 |_,_=>false
def eqs:List D->List D->Bool
 |[],_=>true
 |a::l,b::m=>O4 a b&&eqs l m
 |_::_,[]=>false
def fits:List pO->List D->Bool
 |[],[]=>true
 |.int k::t,d::l=>d.isInt k&&fits t l
 |.bool::t,d::l=>d.isBool&&fits t l
 |.str::t,d::l=>d.isStr&&fits t l
 |_,_=>false
def sA(T:e7)(op:BinOp)(t:TypeId)(x y:D)(K:D->Prop):Prop:=
 match x,y with
 |.int k a,.int k' b=>
  match op with
  |.shl=>cu (decide (0<=b)) (K (.int k (eu k a b)))
  |.shr=>cu (decide (0<=b)) (K (.int k (bc k a b)))
  |op=>cu (decide (k=k')) (Ul op k a b K)
 |.str a,.str b=>
  match op with
  |.add=>cu (decide (a.length+b.length<=maxLen)) (K (.str (a++b)))
  |.eql=>K (.bool (decide (a=b)))
  |.neq=>K (.bool (!decide (a=b)))
  |_=>False
 |.bool a,.bool b=>
  match T.get t with
  |some ⟨.bool,_,_,_,_,_⟩=>match op with
   |.eql=>K (.bool (a==b))
   |.neq=>K (.bool (!(a==b)))
   |_=>False
  |_=>False
 |.agg a,.agg b=>
  match T.get t with
  |some ti=>cu (ti.kind.isAgg&&bN 0 ti.size&&ti.eq&&fits ti.sx a&&fits ti.sx b)<|
   match op with
   |.eql=>K (.bool (eqs a b))
   |.neq=>K (.bool (!(eqs a b)))
   |_=>False
  |none=>False
 |_,_=>False
def LU(T:e7)(s d:TypeId)(x:D)(K:D->Prop):Prop:=
 match T.get s,T.get d with
 |some ⟨.int _,_,_,_,_,_⟩,some ⟨.int k,_,_,_,_,_⟩=>match x with
  |.int _ n=>K (.int k (k.wrap n))
  |_=>False
 |some ⟨.string,_,_,_,_,_⟩,some ⟨.string,_,_,_,_,_⟩=>match x with
  |.str s=>K (.str s)
  |_=>False
 |_,_=>False
def PC(T:e7)(s:TypeId)(f:Nat):Option (Nat×TypeId×Nat):=
 match T.get s with
 |some ⟨.struct fs,_,_,_,_,_⟩=>fs[f]?
 |_=>none
def EV(place:Nat->Option (Nat×Nat))(ev:Operand->D):List (Nat×Operand)->List D->(List D->Prop)->Prop
 |[],cs,K=>D.jS cs K
 |(i,x)::ps,cs,K=>match place i with
  |some (off,n)=>cu ((ev x).isVal&&bX (ev x).cells.length n&&gD (off+n) cs.length) (EV place ev ps (kJ cs off (ev x).cells) K)
  |none=>False
def D.PK:D->D|.sl a b _=>.sl a b false|d=>d
def G2:List D->List D
 |[]=>[]
 |d::l=>d.PK::G2 l
def EY(n len:Nat)(ev:Operand->D):List (Nat×Operand)->List (List D)->(List (List D)->Prop)->Prop
 |[],es,K=>K es
 |(i,x)::ps,es,K=>cu (((ev x).isVal&&(G2 (ev x).cells).all D.plain)&&bX (G2 (ev x).cells).length n&&bN i len) (EY n len ev ps (es.set i (G2 (ev x).cells)) K)
def wm(row:Row):Rows->Nat->(Nat->Rows->Prop)->Prop
 |[],n,K=>K n [some row]
 |x::l,n,K=>wm row l (n+1) λk l=>K k (x::l)
def uo(R:Rows)(row:Row)(K:Nat->Rows->Prop):Prop:=wm row R 0 K
def ints(e:List D)(off:Nat):Nat->List Int
 |0=>[]
 |n+1=>(e.getD off .dead).toInt::ints e (off+1) n
def ag(e:List D)(off:Nat):Nat->List Bool
 |0=>[]
 |n+1=>(e.getD off .dead).toBool::ag e (off+1) n
def Cr(k:IntKind)(e:List D)(off:Nat):Nat->Bool
 |0=>true
 |n+1=>(e.getD off .dead).isInt k&&Cr k e (off+1) n
def GP(e:List D)(off:Nat):Nat->Bool
 |0=>true
 |n+1=>(e.getD off .dead).isBool&&GP e (off+1) n
def GX(k:IntKind)(l:List Int)(j:Nat):Nat->List D
 |0=>[]
 |n+1=>.int k (l.getD j 0)::GX k l (j+1) n
def GY(l:List Bool)(j:Nat):Nat->List D
 |0=>[]
 |n+1=>.bool (l.getD j false)::GY l (j+1) n
def wq(T:e7)(t:TypeId)(x:D)(R:Rows)(K:D->Rows->Prop):Prop:=
 match T.get t with
 |none=>False
 |some ti=>match x with
  |.ptr r i off=>match R.getD r none with
   |some ⟨box,_,sz,es⟩=>cu (gD (off+ti.size) sz) (ur (!box) ti (es.get i) off λd=>K d R)
   |none=>False
  |.pa r i off len k n=>match R.getD r none with
   |some ⟨_,_,sz,es⟩=>cu (gD (off+len) sz)<|match ti.kind,k with
    |.int j,some k=>cu (decide (j=k)&&Cr k (es.get i) off len) (K (.int k ((ints (es.get i) off len).getD n 0)) R)
    |.bool,none=>cu (GP (es.get i) off len) (K (.bool ((ag (es.get i) off len).getD n false)) R)
    |_,_=>False
   |none=>False
  |.im sz es i off=>cu (gD (off+ti.size) sz) (ur true ti (es.get i) off λd=>K d R)
  |_=>False
def GZ(T:e7)(t:TypeId)(x d:D)(R:Rows)(K:D->Rows->Prop):Prop:=
 match T.get t with
 |none=>False
 |some ti=>match x with
  |.ptr r i off=>match R.getD r none with
   |some ⟨box,ty,sz,es⟩=>cu (bN 0 ti.size&&d.isVal&&bX d.cells.length ti.size&&gD (off+ti.size) sz)<|match box with
    |true=>D.jS (kJ (es.get i) off d.cells) λe=>tv (R.set r (some ⟨true,ty,sz,.gen [e]⟩)) λR=>K .dead R
    |false=>cu (d.cells.all D.plain) (tv (R.set r (some ⟨false,ty,sz,es.set i (kJ (es.get i) off d.cells)⟩)) λR=>K .dead R)
   |none=>False
  |.pa r i off len k n=>match R.getD r none with
   |some ⟨box,ty,sz,es⟩=>cu (box&&gD (off+len) sz)<|match ti.kind,k,d with
    |.int j,some k,.int k' v=>cu (decide (j=k)&&decide (k'=k)&&Cr k (es.get i) off len)<|
     D.jS (kJ (es.get i) off (GX k ((ints (es.get i) off len).set n v) 0 len)) λe=>tv (R.set r (some ⟨true,ty,sz,.gen [e]⟩)) λR=>K .dead R
    |.bool,none,.bool v=>cu (GP (es.get i) off len)<|
     D.jS (kJ (es.get i) off (GY ((ag (es.get i) off len).set n v) 0 len)) λe=>tv (R.set r (some ⟨true,ty,sz,.gen [e]⟩)) λR=>K .dead R
    |_,_,_=>False
   |none=>False
  |_=>False
def Un(T:e7)(t:TypeId)(x:D)(Um:Bool)(n:Int)(R:Rows)(K:D->Rows->Prop):Prop:=
 match T.get t with
 |some ⟨.slice _ iC,_,_,_,_,_⟩=>match x with
  |.sl sz es _=>cu (bX sz iC&&bN 0 iC&&decide (0<=n/\n<es.len)) (K (.im sz es n.toNat 0) R)
  |.own r o m=>match R.getD r none with
   |some ⟨_,_,sz,_⟩=>cu (bX sz iC&&bN 0 iC&&decide (0<=n/\n<m)) (K (.ptr r (o+n.toNat) 0) R)
   |none=>False
  |.all r=>match R.getD r none with
   |some ⟨_,_,sz,es⟩=>cu (bX sz iC&&bN 0 iC&&decide (0<=n/\n<es.len)) (K (.ptr r n.toNat 0) R)
   |none=>False
  |_=>False
 |some ⟨.array len e iC,_,_,_,_,_⟩=>cu (bN 0 iC&&decide (0<=n/\n<len))<|match x with
  |.ptr r i off=>match Um with
   |true=>K (.ptr r i (off+n.toNat*iC)) R
   |false=>match T.get e with
    |some ⟨.int k,_,_,_,_,_⟩=>cu (bX iC 1) (K (.pa r i off len (some k) n.toNat) R)
    |some ⟨.bool,_,_,_,_,_⟩=>cu (bX iC 1) (K (.pa r i off len none n.toNat) R)
    |_=>K (.ptr r i (off+n.toNat*iC)) R
  |.im sz es i off=>K (.im sz es i (off+n.toNat*iC)) R
  |_=>False
 |_=>False
def rG(x:Option Operand)(ev:Operand->D)(n:Int):Option Int:=match x with|none=>some n|some y=>match ev y with|.int _ m=>some m|_=>none
def LV(T:e7)(t:TypeId)(x:D)(lo hi:Option Operand)(ev:Operand->D)(R:Rows)(K:D->Rows->Prop):Prop:=
 match T.get t with
 |some ⟨.string,_,_,_,_,_⟩=>match x with
  |.str s=>match rG lo ev 0,rG hi ev s.length with
   |some l,some h=>cu (decide (0<=l/\l<=h/\h<=s.length)) (K (.str ((s.drop l.toNat).take (h.toNat-l.toNat))) R)
   |_,_=>False
  |_=>False
 |some ⟨.slice _ iC,_,_,_,_,_⟩=>match x with
  |.sl sz es fr=>match rG lo ev 0,rG hi ev es.len with
   |some l,some h=>cu (bX sz iC&&bN 0 iC&&decide (0<=l/\l<=h/\h<=es.len)) (K (.sl sz ((es.drop l.toNat).take (h.toNat-l.toNat)) fr) R)
   |_,_=>False
  |.all r=>match R.getD r none with
   |some ⟨_,_,sz,es⟩=>match rG lo ev 0,rG hi ev es.len with
    |some l,some h=>cu (bX sz iC&&bN 0 iC&&decide (0<=l/\l<=h/\h<=es.len)) (K (.own r l.toNat (h.toNat-l.toNat)) R)
    |_,_=>False
   |none=>False
  |.own r o n=>match R.getD r none with
   |some ⟨_,_,sz,_⟩=>match rG lo ev 0,rG hi ev n with
    |some l,some h=>cu (bX sz iC&&bN 0 iC&&decide (0<=l/\l<=h/\h<=n)) (K (.own r (o+l.toNat) (h.toNat-l.toNat)) R)
    |_,_=>False
   |none=>False
  |_=>False
 |some ⟨.array len e iC,_,_,_,_,_⟩=>match x,lo,hi with
  |.im sz es i off,none,none=>match T.get e with
   |some ⟨.int k,_,_,_,_,_⟩=>cu (bX iC 1&&(gD (off+len) sz&&Cr k (es.get i) off len)) (K (.sl 1 (.ints k (ints (es.get i) off len)) false) R)
   |_=>False
  |_,_,_=>False
 |_=>False
def uw(T:e7)(t:TypeId)(n m:Int)(R:Rows)(K:D->Rows->Prop):Prop:=
 match T.get t with
 |some ⟨.slice e _,_,_,_,_,_⟩=>match T.get e with
  |some ⟨_,sz,lg,_,some z,_⟩=>cu (bN 0 sz&&bX z.length sz&&z.all D.plain&&decide (0<=n/\n<=m/\m<=9223372036854775807/\(lg:Int)*m<=140737488355328))
   (uo R ⟨false,e,sz,ah.EW e n.toNat z⟩ λk R=>K (.all k) R)
  |_=>False
 |_=>False
def sF(T:e7)(t:TypeId)(x:D)(R:Rows)(K:D->Rows->Prop):Prop:=
 match T.get t with
 |some ⟨.string,_,_,_,_,_⟩=>match x with
  |.str s=>K (.int .i64 s.length) R
  |_=>False
 |some ⟨.slice _ _,_,_,_,_,_⟩=>match x with
  |.sl _ es _=>K (.int .i64 es.len) R
  |.own _ _ n=>K (.int .i64 n) R
  |.all r=>match R.getD r none with
   |some ⟨_,_,_,es⟩=>K (.int .i64 es.len) R
   |none=>False
  |.c8=>K (.int .i64 0) R
  |.emp=>K (.int .i64 0) R
  |_=>False
 |_=>False
def LW(T:e7)(t:TypeId)(parts:List (Nat×Operand))(ev:Operand->D)(R:Rows)(K:D->Rows->Prop):Prop:=
 match T.get t with
 |some ⟨.struct fs,_,_,_,some ds,_⟩=>cu (fs.all λf=>bN 0 f.2.2)<|EV (λi=>(fs[i]?).map λf=>(f.1,f.2.2)) ev parts ds λcs=>K (.agg cs) R
 |some ⟨.array _ _ iC,_,_,_,some ds,_⟩=>cu (bN 0 iC)<|EV (λi=>some (i*iC,iC)) ev parts ds λcs=>K (.agg cs) R
 |_=>False
def LX(T:e7)(t:TypeId)(len:Nat)(parts:List (Nat×Operand))(ev:Operand->D)(R:Rows)(K:D->Rows->Prop):Prop:=
 match T.get t with
 |some ⟨.slice e _,_,_,_,_,_⟩=>match T.get e with
  |some ⟨_,sz,_,_,some z,_⟩=>cu (bN 0 sz&&bX z.length sz&&gD (len*sz) 16777216&&z.all D.plain)<|
   EY sz len ev parts (cO len z) λes=>match len with|0=>K .emp R|_+1=>K (.sl sz (ah.PM e es) true) R
  |_=>False
 |_=>False
def Ue(t:TypeId)(len:Nat):Bool:=gD 2 len&&Fh.any λq=>bX q t
def YU(T:e7)(t:TypeId)(len:Nat)(parts:List (Nat×Operand))(ev:Operand->D)(R:Rows)(K:D->Rows->Prop):Prop:=
 match T.get t with
 |some ⟨.slice e _,_,_,_,_,_⟩=>match T.get e with
  |some ⟨_,sz,_,_,some z,_⟩=>cu (bN 0 sz&&bX z.length sz&&gD (len*sz) 16777216&&z.all D.plain)<|
   EY sz len ev parts (cO len z) λes=>uo R ⟨false,e,sz,ah.PM e es⟩ λk R=>K (.all k) R
  |_=>False
 |_=>False
def Hd(T:e7)(t:TypeId)(len:Nat)(parts:List (Nat×Operand))(ev:Operand->D)(R:Rows)(K:D->Rows->Prop):Prop:=
 wS (Ue t len) (YU T t len parts ev R K) (LX T t len parts ev R K)
def GQ:iq->Option (Nat×Nat×Nat)|.ptr r i off=>some (r,i,off)|_=>none
def Pu:List iq->Option (List (Nat×Nat×Nat))
 |[]=>some []
 |x::l=>match GQ x,Pu l with|some p,some ps=>some (p::ps)|_,_=>none
def Ct:D->Option iq
 |.ptr r i off=>some (.ptr r i off)
 |.int k n=>some (.int k n)
 |.all r=>some (.arr r)
 |.sl a b fr=>some (.sl a b fr)
 |.gk f cs=>match Pu cs with|some ps=>some (.fn f ps)|none=>none
 |_=>none
def J0:List D->Option (List iq)
 |[]=>some []
 |d::l=>match Ct d,J0 l with|some x,some xs=>some (x::xs)|_,_=>none
def gy(T:e7)(o:Op)(ev:Operand->D)(R:Rows)(K:D->Rows->Prop):Prop:=
 match o with
 |.move x|.assign x=>(ev x).force λd=>K d R
 |.alloc t=>match T.get t with
  |some ⟨_,sz,_,_,some ds,_⟩=>cu (bN 0 sz&&bX ds.length sz) (uo R ⟨true,t,sz,.gen [ds]⟩ λk R=>K (.ptr k 0 0) R)
  |_=>False
 |.box t x=>match T.get t with
  |some ⟨_,sz,_,_,_,_⟩=>cu (bN 0 sz&&(ev x).isVal&&bX (ev x).cells.length sz) (D.jS (ev x).cells λcs=>uo R ⟨true,t,sz,.gen [cs]⟩ λk R=>K (.ptr k 0 0) R)
  |none=>False
 |.build t parts=>LW T t parts.toList ev R K
 |.buildSlice t len parts=>Hd T t len parts.toList ev R K
 |.load t a=>wq T t (ev a) R K
 |.store t a x=>GZ T t (ev a) (ev x) R K
 |.nilCheck x=>match ev x with
  |.ptr a b c=>K (.ptr a b c) R
  |.im a b c d=>K (.im a b c d) R
  |_=>False
 |.binOp op t x y _=>sA T op t (ev x) (ev y) λd=>K d R
 |.unOp op _ x=>match op,ev x with
  |.neg,.int k n=>K (.int k (k.wrap (0-n))) R
  |.xor,.int k n=>K (.int k (rh k (if k.signed then-1 else k.max) n)) R
  |.not,.bool b=>K (.bool (!b)) R
  |_,_=>False
 |.convert s d x=>LU T s d (ev x) λv=>K v R
 |.fieldAddr s x f=>match PC T s f with
  |some (o,_,n)=>cu (bN 0 n)<|match ev x with
   |.ptr r i off=>K (.ptr r i (off+o)) R
   |.im sz es i off=>K (.im sz es i (off+o)) R
   |_=>False
  |none=>False
 |.field s x f=>match PC T s f with
  |some (o,t,n)=>match ev x,T.get t with
   |.agg cs,some ti=>cu (bN 0 n&&gD (o+n) cs.length)<|match ti.kind.isAgg with
    |true=>D.jS ((cs.drop o).take n) λl=>K (.agg l) R
    |false=>cu (cs.getD o .dead).uH ((cs.getD o .dead).force λd=>K d R)
   |_,_=>False
  |none=>False
 |.indexAddr t x ix=>match ev ix with
  |.int _ n=>Un T t (ev x) (match ix with|.const _=>true|_=>false) n R K
  |_=>False
 |.index t x ix=>match T.get t,ev x,ev ix with
  |some ⟨.string,_,_,_,_,_⟩,.str s,.int _ n=>cu (decide (0<=n/\n<s.length)) (K (.int .u8 ((s.getD n.toNat 0).toNat:Int)) R)
  |some ⟨.array len e iC,_,_,_,_,_⟩,.agg cs,.int _ n=>cu (bX iC 1&&(bX cs.length len&&decide (0<=n/\n<len)))<|match T.get e with
   |some ⟨.int k,_,_,_,_,_⟩=>cu (Cr k cs 0 len) (K (.int k ((ints cs 0 len).getD n.toNat 0)) R)
   |some ⟨.bool,_,_,_,_,_⟩=>cu (GP cs 0 len) (K (.bool ((ag cs 0 len).getD n.toNat false)) R)
   |_=>False
  |_,_,_=>False
 |.extract x i=>match ev x with
  |.dw ds=>cu (ds.getD i .dead).isVal ((ds.getD i .dead).force λd=>K d R)
  |_=>False
 |.slice t x lo hi none=>LV T t (ev x) lo hi ev R K
 |.makeSlice t l c=>match ev l,ev c with
  |.int _ n,.int _ m=>uw T t n m R K
  |_,_=>False
 |.call {callee:=.builtin .len,args,argTypes}=>match args.toList,argTypes.toList with
  |[x],[t]=>sF T t (ev x) R K
  |_,_=>False
 |.makeFunc fn first captured=>match fn with
  |.func f=>cu (bX first.size 0&&bN f YB)<|match J0 (captured.toList.map ev)with
   |some cs=>K (.gk f cs) R
   |none=>False
  |_=>False
 |_=>False
def pos(r:Nat):List Nat->Nat->Nat
 |[],k=>k
 |x::l,k=>match bX x r with|true=>k|false=>pos r l (k+1)
def cv(r:Nat):List Nat->Bool
 |[]=>false
 |x::l=>match bX x r with|true=>true|false=>cv r l
def pb:List Nat->List Nat->Bool
 |[],_=>true
 |x::l,m=>match cv x m with|true=>pb l m|false=>false
def nC:List Nat->List Nat->Bool
 |[],_=>true
 |x::l,m=>match cv x m with|true=>false|false=>nC l m
def kU:List Nat->List Nat->List Nat
 |ids,[]=>ids
 |ids,x::l=>match cv x ids with|true=>kU ids l|false=>kU (ids++[x]) l
def Cv:List Nat->Bool
 |[]=>true
 |x::l=>match cv x l with|true=>false|false=>Cv l
def Co:iq->List Nat|.ptr r _ _=>[r]|.arr r=>[r]|.fn _ ps=>ps.map (·.1)|_=>[]
def od:List iq->List Nat
 |[]=>[]
 |x::l=>Co x++od l
def iq.ja(f:Nat->Nat)(dv:Bool):iq->iq
 |.ptr r i off=>.ptr (f r) i off
 |.int k n=>.int k n
 |.arr r=>.arr (f r)
 |.sl a b fr=>.sl a b (fr&&dv)
 |.fn g ps=>.fn g (ps.map λp=>(f p.1,p.2))
def nB:D->List Nat|.gk _ cs=>od cs|.gd r=>[r]|.all r=>[r]|.own r _ _=>[r]|.ptr r _ _=>[r]|.pa r _ _ _ _ _=>[r]|_=>[]
def pI:List D->List Nat
 |[]=>[]
 |d::l=>nB d++pI l
def EL:D->List Nat|.agg cs=>pI cs|d=>nB d
def D.ee(ks:List Nat):D->D
 |.all r=>match cv r ks with|true=>.dead|false=>.all r
 |.own r o n=>match cv r ks with|true=>.dead|false=>.own r o n
 |.ptr r i off=>match cv r ks with|true=>.dead|false=>.ptr r i off
 |.pa r i off l k n=>match cv r ks with|true=>.dead|false=>.pa r i off l k n
 |.gd r=>match cv r ks with|true=>.dead|false=>.gd r
 |.gk f cs=>match nC (od cs) ks with|true=>.gk f cs|false=>.dead
 |d=>d
def D.kf(ks:List Nat):List D->List D
 |[]=>[]
 |d::l=>d.ee ks::kf ks l
def D.kill(ks:List Nat):D->D
 |.agg cs=>.agg (D.kf ks cs)
 |d=>d.ee ks
def D.pA(ks:List Nat):List D->List D
 |[]=>[]
 |d::l=>d.kill ks::pA ks l
def D.gl(ks:List Nat):D->D
 |.dw ds=>.dw (D.pA ks ds)
 |d=>d.kill ks
def Row.kill(ks:List Nat):Row->Row
 |⟨true,ty,sz,.gen [e]⟩=>⟨true,ty,sz,.gen [D.kf ks e]⟩
 |r=>r
def rD(ks:List Nat):Rows->Nat->Rows
 |[],_=>[]
 |x::l,i=>(match cv i ks with|true=>none|false=>match x with|some row=>some (row.kill ks)|none=>none)::rD ks l (i+1)
def FR(ks:List Nat):List (Nat×D)->(List (Nat×D)->Prop)->Prop
 |[],K=>K []
 |(t,d)::l,K=>(d.gl ks).force λd=>FR ks l λl=>K ((t,d)::l)
def oU(s:List UInt8):List Int:=s.map λb=>(b.toNat:Int)
def bytesOf(l:List Int):List UInt8:=l.map λn=>UInt8.ofNat n.toNat
def r3(R:Rows):D->Option (Nat×ah)
 |.c8=>some (0,.gen [])
 |.emp=>some (0,.gen [])
 |.sl sz es _=>some (sz,es)
 |.all r=>match R.getD r none with|some ⟨false,_,sz,es⟩=>some (sz,es)|_=>none
 |.own r o n=>match R.getD r none with|some ⟨false,_,sz,es⟩=>some (sz,(es.drop o).take n)|_=>none
 |_=>none
def Ce(R:Rows)(ke kx:TK)(y:D):Option (Nat×ah):=
 match kx with
 |.slice _ _=>r3 R y
 |.string=>match ke,y with
  |.int .u8,.str s=>some (1,.ints .u8 (oU s))
  |_,_=>none
 |_=>none
def HV:ah->Bool|.gen []=>true|_=>false
def Ch(e sz lg:Nat)(R:Rows)(ks:List Nat)(es ys:ah)(K:List Nat->D->Rows->Prop):Prop:=
 cu (decide (lg*(es.len+ys.len)<=140737488355328))<|tv (rD ks R 0++[some ⟨false,e,sz,es.app ys⟩]) λR'=>K ks (.all R.length) R'
def LD (T:e7)(M:Nat)(t tx:TypeId)(x y:D)(R:Rows)(K:List Nat->D->Rows->Prop):Prop:=
 match T.get t with
 |some ⟨.slice e iC,_,_,_,_,_⟩=>match T.get e,T.get tx with
  |some ⟨ke,sz,lg,_,some z,_⟩,some ⟨kx,_,_,_,_,_⟩=>match Ce R ke kx y with
   |some (sy,ys)=>cu ((bN 0 sz&&bX iC sz)&&(bX z.length sz&&z.all D.plain)&&(bN 0 lg&&(bX sy sz||HV ys)))<|
    match x with
    |.c8=>Ch e sz lg R [] (.gen []) ys K
    |.emp=>Ch e sz lg R [] (.gen []) ys K
    |.all r=>match R.getD r none with
     |some ⟨false,ty,s,es⟩=>cu ((bX s sz&&bX ty e)&&gD M r) (Ch e sz lg R [r] es ys K)
     |_=>False
    |.own r o n=>match R.getD r none with
     |some ⟨false,ty,s,es⟩=>cu ((bX s sz&&bX ty e)&&(gD M r&&bX o 0)) (Ch e sz lg R [r] (es.take n) ys K)
     |_=>False
    |_=>False
   |none=>False
  |_,_=>False
 |_=>False
def tI(T:e7)(t tx:TypeId)(x y:D)(R:Rows)(K:D->Rows->Prop):Prop:=
 match T.get t with
 |some ⟨.slice e iC,_,_,_,_,_⟩=>match T.get e,T.get tx with
  |some ⟨ke,sz,_,_,_,_⟩,some ⟨kx,_,_,_,_,_⟩=>match Ce R ke kx y with
   |some (sy,ys)=>cu ((bN 0 sz&&bX iC sz)&&(bX sy sz||HV ys))<|
    match x with
    |.all r=>match R.getD r none with
     |some ⟨false,ty,s,es⟩=>cu (bX s sz)<|tv (R.set r (some ⟨false,ty,s,(ys.take (min ys.len es.len)).app (es.drop (min ys.len es.len))⟩)) λR'=>K (.int .i64 (min ys.len es.len:Nat)) R'
     |_=>False
    |.own r o n=>match R.getD r none with
     |some ⟨false,ty,s,es⟩=>cu (bX s sz)<|tv (R.set r (some ⟨false,ty,s,((es.take o).app (ys.take (min ys.len n))).app (es.drop (o+min ys.len n))⟩)) λR'=>K (.int .i64 (min ys.len n:Nat)) R'
     |_=>False
    |_=>False
   |none=>False
  |_,_=>False
 |_=>False
inductive Ans where
 |no
 |ok (res:D) (rows:List Row)
 |when (p:Prop) (res:D) (rows:List Row)
 |abs (α:Type) (v:α) (res:α->D) (rows:α->List Row)
 |kW (p:Prop) (α:Type) (v:α) (res:α->D) (rows:α->List Row)
structure ba where
 f:FuncId
 refs:List Bool
 flat:Bool
 m:List D->List Row->Ans
 gone:Option Nat
 oM:Bool
def oA:List ba->FuncId->Option ba
 |[],_=>none
 |x::l,f=>match bX x.f f with|true=>some x|false=>oA l f
def EK(R:Rows):D->Option D
 |.bool b=>some (.bool b)
 |.int k n=>some (.int k n)
 |.str s=>some (.str s)
 |.iB=>some .iB
 |.jC=>some .jC
 |.c8=>some (.sl 0 (.gen []) false)
 |.emp=>some (.sl 0 (.gen []) false)
 |.sl a b _=>some (.sl a b false)
 |.all r=>match R.getD r none with|some row=>(match row.box with|false=>some (.sl row.sz row.es false)|true=>none)|none=>none
 |.own r o n=>match R.getD r none with|some row=>(match row.box with|false=>some (.sl row.sz ((row.es.drop o).take n) false)|true=>none)|none=>none
 |_=>none
def IV(R:Rows):List D->Option (List D)
 |[]=>some []
 |d::ds=>match EK R d,IV R ds with|some x,some xs=>some (x::xs)|_,_=>none
def conv(R:Rows):D->Option D
 |.agg cs=>(IV R cs).map .agg
 |d=>EK R d
def D.mb(f:Nat->Nat)(dv:Bool):D->D
 |.all r=>.all (f r)
 |.own r o n=>.own (f r) o n
 |.ptr r i off=>.ptr (f r) i off
 |.pa r i off l k n=>.pa (f r) i off l k n
 |.sl a b fr=>.sl a b (fr&&dv)
 |.gk g cs=>.gk g (cs.map (iq.ja f dv))
 |.gd r=>.gd (f r)
 |d=>d
def D.me(f:Nat->Nat)(dv:Bool):List D->List D
 |[]=>[]
 |d::l=>d.mb f dv::me f dv l
def D.ja(f:Nat->Nat)(dv:Bool):D->D
 |.agg cs=>.agg (D.me f dv cs)
 |d=>d.mb f dv
def D.Aj(f:Nat->Nat)(dv:Bool):List D->List D
 |[]=>[]
 |d::l=>d.ja f dv::Aj f dv l
def D.sC(f:Nat->Nat)(dv:Bool):D->D
 |.dw ds=>.dw (D.Aj f dv ds)
 |d=>d.ja f dv
def Row.ja(f:Nat->Nat)(dv:Bool):Row->Row
 |⟨true,ty,sz,.gen [e]⟩=>⟨true,ty,sz,.gen [D.me f dv e]⟩
 |r=>r
def Cn(R:Rows):List Nat->List Nat
 |[]=>[]
 |r::l=>(match R.getD r none with|some ⟨true,_,_,.gen [e]⟩=>pI e|_=>[])++Cn R l
def Cw:List Bool->List D->List Nat
 |true::bs,d::ds=>EL d++Cw bs ds
 |false::bs,_::ds=>Cw bs ds
 |_,_=>[]
def lq:List Bool->List D->List Nat
 |true::bs,_::ds=>lq bs ds
 |false::bs,d::ds=>EL d++lq bs ds
 |[],d::ds=>EL d++lq [] ds
 |_,[]=>[]
def ma(R:Rows)(bs:List Bool)(args:List D):List Nat:=
 let a:=kU [] (Cw bs args)
 let b:=kU a (Cn R a)
 kU b (Cn R b)
def AR(R:Rows)(f:Nat->Nat):List Nat->Option (List Row)
 |[]=>some []
 |r::l=>match R.getD r none,AR R f l with
  |some row,some rs=>some (row.ja f false::rs)
  |_,_=>none
def sw(R:Rows)(f:Nat->Nat):List Bool->List D->Option (List D)
 |true::bs,d::ds=>match d.isVal,sw R f bs ds with|true,some xs=>some (d.ja f false::xs)|_,_=>none
 |false::bs,d::ds=>match conv R d,sw R f bs ds with|some x,some xs=>some (x::xs)|_,_=>none
 |[],d::ds=>match conv R d,sw R f [] ds with|some x,some xs=>some (x::xs)|_,_=>none
 |_,[]=>some []
def bk(ids:List Nat)(n0 i:Nat):Nat:=match ids[i]? with|some r=>r|none=>n0+(i-ids.length)
def tw(f:Nat->Nat):List Nat->List Row->Rows->Rows
 |r::ids,row::rows,R=>tw f ids rows (R.set r (some (row.ja f true)))
 |_,_,R=>R
def AV(f:Nat->Nat)(rows:List Row):Rows:=rows.map λrow=>some (row.ja f true)
inductive Ex where
 |normal|exit (id:Nat)|ret
def St.put(N:Nat)(st:St)(dst:Option Tmp)(d:D)(R:Rows)(K:St->Prop):Prop:=
 match dst with
 |none=>K ⟨st.env,R⟩
 |some t=>cu (bN t N) (K ⟨(t,d)::st.env,R⟩)
def St.jN(st:St)(c:Operand)(b:Bool):St:=
 match c with
 |.tmp t=>⟨(t,.bool b)::st.env,st.rows⟩
 |_=>st
def DJ(R:Rows)(ids:List Nat)(res:D)(aj:List Row)(K:D->Rows->Prop):Prop:=
 cu (gD ids.length aj.length)<|(res.sC (bk ids R.length) true).force λres=>
  tv (tw (bk ids R.length) ids aj R++AV (bk ids R.length) (aj.drop ids.length)) λR=>K res R
def sD(G:List ba)(f:FuncId)(args:List D)(R:Rows)(K:D->Rows->Prop):Prop:=
 match oA G f with
 |some x=>
  match sw R (λr=>pos r (ma R x.refs args) 0) x.refs args,AR R (λr=>pos r (ma R x.refs args) 0) (ma R x.refs args)with
  |some az,some rows=>
   cu ((x.flat&&(match ma R x.refs args with|[]=>true|_=>false)||(match lq x.refs args with|[]=>true|_=>false))&&
    (pb (Cw x.refs args) (ma R x.refs args)&&pb (Cn R (ma R x.refs args)) (ma R x.refs args))&&
    (Cv (ma R x.refs args)&&nC (lq x.refs args) (ma R x.refs args)))<|
   match x.m az rows with
   |.ok res aj=>DJ R (ma R x.refs args) res aj K
   |.when p res aj=>p/\DJ R (ma R x.refs args) res aj K
   |.abs _ v res aj=>∀X,X=v->DJ R (ma R x.refs args) (res X) (aj X) K
   |.kW p _ v res aj=>p/\∀X,X=v->DJ R (ma R x.refs args) (res X) (aj X) K
   |.no=>False
  |_,_=>False
 |none=>False
def oL(G:List ba)(f:FuncId):Option Nat:=match oA G f with|some x=>x.gone|none=>none
def EI(f:Nat->Nat):List Nat->List Row->Rows->Rows
 |r::ids,row::rows,R=>EI f ids rows (R.set r (some (row.ja f false)))
 |_,_,R=>R
def Pj(f:Nat->Nat)(rows:List Row):Rows:=rows.map λrow=>some (row.ja f false)
def GM(R:Rows)(L6 gid:List Nat)(res:D)(aj:List Row)(K:List Nat->D->Rows->Prop):Prop:=
 cu (gD L6.length aj.length)<|(res.sC (bk L6 R.length) false).force λres=>
  tv (EI (bk L6 R.length) L6 aj (rD gid R 0)++Pj (bk L6 R.length) (aj.drop L6.length)) λR=>K gid res R
def HD(G:List ba)(M:Nat)(f:FuncId)(k:Nat)(args:List D)(R:Rows)(K:List Nat->D->Rows->Prop):Prop:=
 match oA G f with
 |some x=>
  match sw R (λr=>pos r (ma R x.refs args) 0) x.refs args,AR R (λr=>pos r (ma R x.refs args) 0) (ma R x.refs args)with
  |some az,some rows=>
   cu (((match lq x.refs args with|[]=>true|_=>false)&&(match x.refs with|[]=>false|_=>true))&&
    (pb (Cw x.refs args) (ma R x.refs args)&&pb (Cn R (ma R x.refs args)) (ma R x.refs args))&&
    (Cv (ma R x.refs args)&&((ma R x.refs args).drop k).all λr=>gD M r))<|
   match x.m az rows with
   |.abs _ v res aj=>∀X,X=v->GM R ((ma R x.refs args).take k) ((ma R x.refs args).drop k) (res X) (aj X) K
   |.kW p _ v res aj=>p/\∀X,X=v->GM R ((ma R x.refs args).take k) ((ma R x.refs args).drop k) (res X) (aj X) K
   |_=>False
  |_,_=>False
 |none=>False
def Bs(G:List ba)(f:FuncId):Bool:=match oA G f with|some x=>x.oM|none=>false
def Cm(G:List ba)(M:Nat)(f:FuncId)(args:List D)(R:Rows)(K:List Nat->D->Rows->Prop):Prop:=
 match oA G f with
 |some x=>
  match sw R (λr=>r) [] args,AR R (λr=>pos r (kU [] (lq [] args)) 0) (kU [] (lq [] args))with
  |some az,some rows=>
   cu (((match x.refs with|[]=>true|_=>false)&&rows.all λr=>!r.box)&&(Cv (kU [] (lq [] args))&&(pb (lq [] args) (kU [] (lq [] args))&&(kU [] (lq [] args)).all λr=>gD M r)))<|
   match x.m az []with
   |.abs _ v res aj=>∀X,X=v->GM R [] (kU [] (lq [] args)) (res X) (aj X) K
   |.kW p _ v res aj=>p/\∀X,X=v->GM R [] (kU [] (lq [] args)) (res X) (aj X) K
   |_=>False
  |_,_=>False
 |none=>False
def PB:D->Bool|.gk _ _=>false|.gd _=>false|.all _=>false|.own _ _ _=>false|.ptr _ _ _=>false|.pa _ _ _ _ _ _=>false|_=>true
def Uj:List D->Bool
 |[]=>true
 |d::l=>match PB d with|true=>Uj l|false=>false
def sE:D->Bool|.agg cs=>Uj cs|d=>PB d
def Uk:List D->Bool
 |[]=>true
 |d::l=>match sE d with|true=>Uk l|false=>false
def uv:D->Bool|.dw ds=>Uk ds|d=>sE d
def LS(R:Rows)(res:D)(aj:List Row)(K:D->Rows->Prop):Prop:=
 match aj with
 |[]=>cu (uv res) (res.force λres=>K res R)
 |_=>(res.sC (bk [] R.length) true).force λres=>tv (R++AV (bk [] R.length) aj) λR=>K res R
def Cy:List Nat->Bool|[]=>true|_=>false
def JV(G:List ba)(f:FuncId)(args:List D)(R:Rows)(K:D->Rows->Prop):Prop:=
 match oA G f with
 |some x=>match x.refs with
  |[]=>match sw R (λr=>r) [] args with
   |some az=>cu (x.flat||Cy (lq [] args))<|match x.m az []with
    |.ok res aj=>LS R res aj K
    |.when p res aj=>p/\LS R res aj K
    |.abs _ v res aj=>∀X,X=v->LS R (res X) (aj X) K
    |.kW p _ v res aj=>p/\∀X,X=v->LS R (res X) (aj X) K
    |.no=>False
   |none=>False
  |_=>sD G f args R K
 |none=>False
def uR(T:e7)(e d:TypeId)(x:D)(R:Rows)(K:D->Prop):Prop:=
 match T.get e,T.get d with
 |some ⟨.int .u8,_,_,_,_,_⟩,some ⟨.string,_,_,_,_,_⟩=>match r3 R x with
  |some (s,es)=>match es.toI .u8 with
   |some l=>cu (bX s 1||HV es) (K (.str (bytesOf l)))
   |none=>False
  |none=>False
 |_,_=>False
def ah.Nil:ah->Prop
 |.gen es=>es=[]
 |.ints _ l=>l=[]
 |.ag l=>l=[]
 |.ai _ l=>l=[]
def JS(T:e7)(t:TypeId)(es:ah)(K:D->Prop):Prop:=
 match T.get t with
 |some ⟨.slice _ _,_,_,_,_,_⟩=>K (.mF es)
 |_=>False
def uQ(mx:Bool)(x y:D)(K:D->Prop):Prop:=
 match x,y with
 |.int k a,.int k' b=>cu (decide (k=k')) (K (.int k (match mx with|true=>(if b>a then b else a)|false=>(if b<a then b else a))))
 |_,_=>False
def lz(T:e7)(G:List ba)(N M:Nat)(o:Oper)(st:St)(K:St->Prop):Prop:=
  match o.op with
  | .pick c a b=>match cj st.env c with
    | .bool t=>wS t ((cj st.env a).force λd=>st.put N o.dst d st.rows K) ((cj st.env b).force λd=>st.put N o.dst d st.rows K)
    |_=>False
  | .call {callee:= .value (.func f),args, .. }=>match oL G f with
    | none=>match Bs G f with
      |false=>JV G f (args.toList.map (cj st.env)) st.rows λd R=>st.put N o.dst d R K
      |true=>Cm G M f (args.toList.map (cj st.env)) st.rows λks d R=>FR ks st.env λenv=>St.put N ⟨env,R⟩ o.dst d R K
    |some k=>cu (bN f YB)<|HD G M f k (args.toList.map (cj st.env)) st.rows λks d R=>FR ks st.env λenv=>St.put N ⟨env,R⟩ o.dst d R K
  | .call {callee:= .value (.tmp t),args, .. }=>match look st.env t with
    | .gk f cs=>match oL G f with
      | none=>match Bs G f with
        |false=>JV G f (args.toList.map (cj st.env)++cs.map iq.d) st.rows λd R=>st.put N o.dst d R K
        |true=>False
      |some k=>cu (bN f YB||bX args.size 1)<|HD G M f k (args.toList.map (cj st.env)++cs.map iq.d) st.rows λks d R=>FR ks st.env λenv=>St.put N ⟨env,R⟩ o.dst d R K
    |_=>False
  | .call {callee:= .builtin .append,args,argTypes}=>match args.toList,argTypes.toList with
    |[x,y],[t,tx]=>LD T M t tx (cj st.env x) (cj st.env y) st.rows λks d R=>FR ks st.env λenv=>St.put N ⟨env,R⟩ o.dst d R K
    |_,_=>False
  | .call {callee:= .builtin .copy,args,argTypes}=>match args.toList,argTypes.toList with
    |[x,y],[t,tx]=>tI T t tx (cj st.env x) (cj st.env y) st.rows λd R=>st.put N o.dst d R K
    |_,_=>False
  | .call {callee:= .builtin .min,args, .. }=>match args.toList with
    |[x,y]=>uQ false (cj st.env x) (cj st.env y) λd=>st.put N o.dst d st.rows K
    |_=>False
  | .call {callee:= .builtin .max,args, .. }=>match args.toList with
    |[x,y]=>uQ true (cj st.env x) (cj st.env y) λd=>st.put N o.dst d st.rows K
    |_=>False
  | .convert s d x=>match T.get s with
    |some ⟨.slice e _,_,_,_,_,_⟩=>uR T e d (cj st.env x) st.rows λd=>st.put N o.dst d st.rows K
    |_=>gy T (.convert s d x) (cj st.env) st.rows λd R=>st.put N o.dst d R K
  | .binOp op t x y ty=>match op,cj st.env x,cj st.env y with
    | .eql, .sl _ es _, .c8=>JS T t es λd=>st.put N o.dst d st.rows K
    | .eql, .all r, .c8=>match st.rows.getD r none with
      |some ⟨_,_,_,es⟩=>JS T t es λd=>st.put N o.dst d st.rows K
      |none=>False
    |_,_,_=>gy T (.binOp op t x y ty) (cj st.env) st.rows λd R=>st.put N o.dst d R K
  |op=>gy T op (cj st.env) st.rows λd R=>st.put N o.dst d R K
def lI(T:e7)(G:List ba)(N M:Nat)(ops:Array Oper):List Oper->St->(St->Prop)->Prop
  |[],st,K=>K st
  | o :: l, st,K=>match o.guard with
    |none=>lz T G N M o st λst=>lI T G N M ops l st K
    | some (j,want)=>match(ops[j]?).bind (·.dst) with
      | some g=>match look st.env g with
        | .bool b=>wS b
            (match want with|true=>lz T G N M o (st.jN (.tmp g) true) λst=>lI T G N M ops l st K|false=>(st.jN (.tmp g) true).put N o.dst (.dw []) st.rows λst=>lI T G N M ops l st K)
            (match want with|false=>lz T G N M o (st.jN (.tmp g) false) λst=>lI T G N M ops l st K|true=>(st.jN (.tmp g) false).put N o.dst (.dw []) st.rows λst=>lI T G N M ops l st K)
        | .dw []=>st.put N o.dst (.dw []) st.rows λst=>lI T G N M ops l st K
        |_=>False
      |none=>False
def rO(G:List ba):Op->Bool
 |.store _ _ _=>true
 |.call {callee:=.value (.func f),.. }=>match oA G f with|some x=>(match x.refs with|[]=>x.oM|_=>true)|none=>true
 |.call {callee:=.value (.tmp _),.. }=>true
 |.call {callee:=.builtin .append,.. }=>true
 |.call {callee:=.builtin .copy,.. }=>true
 |_=>false
def kN(G:List ba)(o:Op):Bool:=!rO G o
def Bf(G:List ba)(ops:Array Oper)(b:Array Nat)(i j:Nat):Bool:=
 match ops[i]?,ops[j]? with
 |some x,some y=>
  (x.apart ops y||(b.getD j 0).testBit i)&&((kN G x.op&&kN G y.op)||(b.getD j 0).testBit i)
 |_,_=>true
def Hu(G:List ba)(ops:Array Oper):Bool:=
 let b:=Region.before ops
 (cW ops.size).all λj=>(match ops[j]? with|some o=>o.after.all λe=>!Region.binds .any e||bN e.on j|none=>true)&&(cW j).all λi=>Bf G ops b i j
def kL(ops:Array Oper)(i a:Nat):Bool:=(ops.toList.drop i).all λo=>match o.dst with|some d=>!(bX d a)|none=>true
def mu:List Operand->List Nat
 |[]=>[]
 |.tmp a::l=>a::mu l
 |_::l=>mu l
def pj:Op->Option (List Nat)
 |.assign x=>some (mu [x])
 |.move x=>some (mu [x])
 |.extract x _=>some (mu [x])
 |.nilCheck x=>some (mu [x])
 |.fieldAddr _ x _=>some (mu [x])
 |.buildSlice t len parts=>(match Ue t len with|true=>none|false=>some (mu (parts.toList.map (·.2))))
 |_=>none
def lG(env:List (Nat×D))(op:Op):Option (List Nat):=
 match pj op with
 |some q=>some q
 |none=>match op with
  |.build _ parts=>some (mu (parts.toList.map (·.2)))
  |.binOp _ _ x y _=>match cj env x with|.int _ _=>some (mu [x,y])|.str _=>some (mu [x,y])|.bool _=>some (mu [x,y])|_=>none
  |.unOp _ _ x=>some (mu [x])
  |.convert _ _ x=>match cj env x with|.int _ _=>some (mu [x])|.str _=>some (mu [x])|_=>none
  |.field _ x _=>some (mu [x])
  |.index _ x y=>some (mu [x,y])
  |.slice _ x (some y) (some z) none=>match cj env x with|.str _=>some (mu [x,y,z])|_=>none
  |.slice _ x (some y) none none=>match cj env x with|.str _=>some (mu [x,y])|_=>none
  |.slice _ x none (some z) none=>match cj env x with|.str _=>some (mu [x,z])|_=>none
  |.indexAddr _ x y=>match cj env x with|.sl _ _ _=>some (mu [x,y])|_=>none
  |.load _ x=>match cj env x with|.im _ _ _ _=>some (mu [x])|_=>none
  |.call {callee:=.builtin .len,args,.. }=>match args.toList with|[x]=>(match cj env x with|.str _=>some (mu [x])|.sl _ _ _=>some (mu [x])|_=>none)|_=>none
  |_=>none
def He:D->Bool|.ptr _ _ _=>true|_=>false
def Ji:D->Bool|.emp=>true|.c8=>true|_=>false
def CK(ops:Array Oper)(env:List (Nat×D))(i j:Nat)(op:Op)(l:List Operand):Bool:=
 match op,l with
 |.load _ (.tmp a),.tmp x::_=>kL ops i a&&(kL ops j x&&(He (look env a)&&Ji (look env x)))
 |_,_=>false
def pf:D->Bool|.int _ _=>true|.str _=>true|.bool _=>true|.sl _ _ _=>true|.all _=>true|_=>false
def CL(ops:Array Oper)(env:List (Nat×D))(i:Nat)(op:Op)(dst:Option Nat):Bool:=
 match op,dst with
 |.load _ (.tmp a),some t=>kL ops i a&&(He (look env a)&&(kL ops (i+1) t&&pf (look env t)))
 |_,_=>false
def L1(G:List ba)(ops:Array Oper)(env:List (Nat×D))(i j:Nat):Bool:=
 match ops[i]?,ops[j]? with
 |some x,some y=>(match x.guard,y.guard,x.op,y.op with
  |none,none,.load _ (.tmp a),.store _ (.tmp b) _=>kL ops i a&&(kL ops j b&&(match look env a,look env b with|.ptr r _ _,.ptr r' _ _=>!(bX r r')|.im _ _ _ _,.ptr _ _ _=>true|_,_=>false))
  |none,none,op,.store _ (.tmp b) _=>(match lG env op with|some q=>(q.all λa=>kL ops i a)&&(kL ops j b&&(match look env b with|.ptr _ _ _=>true|_=>false))|none=>false)
  |none,none,op,.call {callee:=.value (.func f),.. }=>(match(match oL G f with|some _=>true|none=>Bs G f)with|true=>false|false=>match lG env op with|some q=>q.all λa=>kL ops i a|none=>false)
  |none,none,op,.call {callee:=.builtin .append,args,.. }=>(match pj op with|some q=>(q.all λa=>kL ops i a&&He (look env a))&&(match x.dst with|some t=>kL ops (i+1) t&&He (look env t)|none=>true)|none=>CK ops env i j op args.toList||CL ops env i op x.dst)
  |_,_,_,_=>false)
 |_,_=>false
def uD(ops:Array Oper)(j:Nat):Bool:=
 match ops[j]? with
 |some y=>match y.guard,y.op with
  |none,.alloc _=>(match y.dst with|none=>true|some u=>(cW ops.size).all λk=>bX k j||(match(ops[k]?).bind (·.dst)with|some d=>!(bX d u)|none=>true))
  |_,_=>false
 |none=>false
def wA(G:List ba)(ops:Array Oper)(env:List (Nat×D))(b:Array Nat)(i j:Nat):Bool:=
 match ops[i]?,ops[j]? with
 |some x,some y=>
  (x.apart ops y||(b.getD j 0).testBit i)&&((kN G x.op&&kN G y.op)||(b.getD j 0).testBit i||(L1 G ops env i j||uD ops j))
 |_,_=>true
def P6(G:List ba)(ops:Array Oper)(env:List (Nat×D)):Bool:=
 let b:=Region.before ops
 (cW ops.size).all λj=>(match ops[j]? with|some o=>o.after.all λe=>!Region.binds .any e||bN e.on j|none=>true)&&(cW j).all λi=>wA G ops env b i j
def Hk(x:Nat):List Nat->Nat->List Nat
 |l,0=>x::l
 |[],_=>[x]
 |y::l,n+1=>y::Hk x l n
def CV(m:Nat):List Nat->Nat->Nat->Nat
 |[],_,r=>r
 |y::l,k,r=>CV m l (k+1) (match m.testBit y with|true=>k+1|false=>r)
def CW:List Oper->Bool
 |[]=>false
 |o::l=>match o.op with|.buildSlice _ 0 _=>true|_=>CW l
def Ft(e:Bool)(op:Op):Bool:=match pj op with|some _=>true|none=>(match op with|.load _ _=>e|_=>false)
def CX(e:Bool)(ops:Array Oper)(b:Array Nat):List Nat->List Nat->List Nat
 |[],acc=>acc
 |j ::js,acc=>CX e ops b js (match ops[j]? with
  |some o=>(match o.guard with
   |none=>(match Ft e o.op with|true=>Hk j acc (CV (b.getD j 0) acc 0 0)|false=>acc++[j])
   |some _=>acc++[j])
  |none=>acc)
def Rf(ops:Array Oper)(b:Array Nat):Bool:=
 (cW ops.size).any λj=>(match ops[j]? with|some y=>(match y.op with|.load _ _=>true|_=>false)|none=>false)&&(cW j).any λi=>(match ops[i]? with|some x=>(match x.op with|.call {callee:=.builtin .append,.. }=>true|_=>false)|none=>false)&&!((b.getD j 0).testBit i)
def UT(ops:Array Oper):List Nat:=CX (CW ops.toList||Rf ops (Region.before ops)) ops (Region.before ops) (cW ops.size) []
def UD(p:List Nat)(n:Nat):Bool:=bX p.length n&&(((cW n).all λi=>cv i p)&&((p.all λi=>bN i n)&&Cv p))
def CO(p:List Nat)(e:Edge):Edge:=⟨pos e.on p 0,e.ground⟩
def L3(p:List Nat)(o:Oper):Oper:=⟨o.dst,o.op,o.type,o.pos,o.after.map (CO p),match o.guard with|none=>none|some (j,w)=>some (pos j p 0,w)⟩
def mZ(p:List Nat)(ops:Array Oper):Array Oper:=(p.map λi=>L3 p (ops.getD i default)).toArray
def uz(T:e7)(G:List ba)(N M:Nat)(ops:Array Oper)(st:St)(Q:Ex->St->Prop):Prop:=
 match Hu G ops with
 |true=>lI T G N M ops ops.toList st λst=>Q .normal st
 |false=>cu (UD (UT ops) ops.size)<|lI T G N M (mZ (UT ops) ops) (mZ (UT ops) ops).toList st λst=>cu (P6 G (mZ (UT ops) ops) st.env) (Q .normal st)
def G4(i n:Nat):List D->Option (List D)
 |[]=>none
 |d::l=>match d,l with
  |.iB,.c8::m=>some (.gd i:: .all n::m)
  |d,l=>match G4 i n l with|some l'=>some (d::l')|none=>none
def Rg(T:e7)(t:TypeId):Bool:=match T.get t with|some ⟨_,_,_,_,some ds,_⟩=>(match G4 0 0 ds with|some _=>true|none=>false)|_=>false
def uJ(T:e7):List Oper->Bool
 |[]=>false
 |o::l=>match o.op with|.alloc t=>(match Rg T t with|true=>true|false=>uJ T l)|_=>uJ T l
def Rh:e7->Option TypeId
 |[]=>none
 |(u,i)::l=>match i.kind with|.int .u8=>some u|_=>Rh l
def Jaa(T:e7):Code->Option TypeId
 |.region _ ops _=>(match uJ T ops.toList with|true=>Rh T|false=>none)
 |_=>none
def I4(n:Nat):Rows->Nat->Option (Nat×TypeId×Nat×List D)
 |[],_=>none
 |x::l,i=>match x with
  |some ⟨true,ty,sz,.gen [e]⟩=>(match G4 i n e with|some e'=>some (i,ty,sz,e')|none=>I4 n l (i+1))
  |_=>I4 n l (i+1)
def I5(T:e7)(a:Code)(st:St)(K:St->Prop):Prop:=
 match Jaa T a with
 |none=>K st
 |some u=>match I4 st.rows.length st.rows 0 with
  |none=>K st
  |some (i,ty,sz,e)=>D.jS e λe=>tv (st.rows.set i (some ⟨true,ty,sz,.gen [e]⟩)++[some ⟨false,u,1,.ints .u8 []⟩]) λR=>K ⟨st.env,R⟩
def D.Bu(R:Rows)(ks:List Nat):D->D
 |.all r=>match cv r ks with
  |true=>(match R.getD r none with|some ⟨false,_,sz,es⟩=>.sl sz es false|_=>.dead)
  |false=>.all r
 |.ptr r i off=>match cv r ks with
  |true=>(match R.getD r none with|some ⟨true,_,sz,.gen [e]⟩=>(match e.all D.plain with|true=>.im sz (.gen [e]) i off|false=>.dead)|_=>.dead)
  |false=>.ptr r i off
 |d=>d.ee ks
def D.r4(R:Rows)(ks:List Nat):List D->List D
 |[]=>[]
 |d::l=>d.Bu R ks::r4 R ks l
def D.HH(R:Rows)(ks:List Nat):D->D
 |.agg cs=>.agg (D.r4 R ks cs)
 |d=>d.Bu R ks
def D.HI(R:Rows)(ks:List Nat):List D->List D
 |[]=>[]
 |d::l=>d.HH R ks::HI R ks l
def D.Bv(R:Rows)(ks:List Nat):D->D
 |.dw ds=>.dw (D.HI R ks ds)
 |d=>d.HH R ks
def Row.lU(R:Rows)(ks:List Nat):Row->Row
 |⟨true,ty,sz,.gen [e]⟩=>⟨true,ty,sz,.gen [D.r4 R ks e]⟩
 |r=>r
def JY(R0:Rows)(ks:List Nat):Rows->Nat->Rows
 |[],_=>[]
 |x::l,i=>(match cv i ks with|true=>none|false=>match x with|some row=>some (row.lU R0 ks)|none=>none)::JY R0 ks l (i+1)
def DY(R:Rows)(ks:List Nat):List (Nat×D)->(List (Nat×D)->Prop)->Prop
 |[],K=>K []
 |(t,d)::l,K=>(d.Bv R ks).force λd=>DY R ks l λl=>K ((t,d)::l)
def CY:List D->List Nat
 |[]=>[]
 |d::l=>(match d with|.all r=>[r]|_=>[])++CY l
def Ri:D->List Nat|.agg cs=>CY cs|.all r=>[r]|_=>[]
def Fu(R:Rows)(n:Nat)(d:D):List Nat:=
 match d with
 |.ptr r _ off=>match R.getD r none with|some ⟨true,_,_,.gen [e]⟩=>CY ((e.drop off).take n)|_=>[]
 |_=>[]
def Hl:List (Nat×List Nat)->Nat->Option (List Nat)
 |[],_=>none
 |(u,x)::l,t=>match bX u t with|true=>some x|false=>Hl l t
def L7(env:List (Nat×D)):List (Nat×D)->Nat->D
 |[],t=>look env t
 |(u,x)::l,t=>match bX u t with|true=>x|false=>L7 env l t
def uK(env:List (Nat×D))(acc:List (Nat×List Nat)):Operand->List Nat
 |.tmp t=>match Hl acc t with|some l=>l|none=>Ri (look env t)
 |_=>[]
def wF(env:List (Nat×D))(acc:List (Nat×List Nat)):List Operand->List Nat
 |[]=>[]
 |x::l=>uK env acc x++wF env acc l
def Jz(T:e7)(env:List (Nat×D))(R:Rows)(acc:List (Nat×List Nat))(pa:List (Nat×D))(o:Oper):List (Nat×List Nat):=
 match o.dst with
 |none=>acc
 |some t=>match o.op with
  |.load ty (.tmp p)=>(t,Fu R (match T.get ty with|some i=>i.size|none=>0) (L7 env pa p))::acc
  |.move x=>(t,uK env acc x)::acc
  |.slice _ x _ _ _=>(t,uK env acc x)::acc
  |_=>acc
def JA(T:e7)(env:List (Nat×D))(pa:List (Nat×D))(o:Oper):List (Nat×D):=
 match o.dst with
 |none=>pa
 |some t=>match o.op with
  |.fieldAddr s (.tmp p) f=>(match PC T s f with|some (k,_,_)=>(match L7 env pa p with|.ptr r i off=>(t,.ptr r i (off+k))::pa|_=>pa)|none=>pa)
  |.move (.tmp p)=>(t,L7 env pa p)::pa
  |.nilCheck (.tmp p)=>(t,L7 env pa p)::pa
  |_=>pa
def JB(G:List ba)(f:FuncId):Bool:=match oA G f with|some x=>x.oM||(match x.refs with|[]=>!x.flat|_=>false)|none=>false
def Rj(T:e7)(env:List (Nat×D))(pa:List (Nat×D))(t:TypeId)(p:Nat):List Nat:=
 match T.get t with
 |some ⟨.array _ _ _,_,_,_,_,_⟩=>(match L7 env pa p with|.ptr r _ _=>[r]|_=>[])
 |_=>[]
def Sc(T:e7)(G:List ba)(env:List (Nat×D))(R:Rows):List (Nat×List Nat)->List (Nat×D)->List Oper->List Nat
 |_,_,[]=>[]
 |acc,pa,o::l=>(match o.op with|.call {callee:=.value (.func f),args,.. }=>(match JB G f with|true=>wF env acc args.toList|false=>[])|.slice t (.tmp p) _ _ _=>Rj T env pa t p|_=>[])++Sc T G env R (Jz T env R acc pa o) (JA T env pa o) l
def tT(M:Nat)(R:Rows):List Nat->List Nat
 |[]=>[]
 |r::l=>match gD M r&&(match R.getD r none with|some ⟨false,_,_,_⟩=>true|some ⟨true,_,_,.gen [e]⟩=>e.all D.plain|_=>false)with|true=>r::tT M R l|false=>tT M R l
def HJ(T:e7)(G:List ba)(M:Nat)(ops:Array Oper)(st:St)(K:St->Prop):Prop:=
 match tT M st.rows (Sc T G st.env st.rows [] [] ops.toList)with
 |[]=>K st
 |ks=>DY st.rows ks st.env λenv=>tv (JY st.rows ks st.rows 0) λR=>K ⟨env,R⟩
def tU(T:e7)(R:Rows)(i:Nat):Option (TypeId×Nat×TypeId×Nat):=
 match R.getD i none with
 |some ⟨true,ty,sz,.gen [[d]]⟩=>(match d with
  |.c8=>(match T.get ty with|some ⟨.slice e n,_,_,_,_,_⟩=>(match bN 0 n with|true=>some (ty,sz,e,n)|false=>none)|_=>none)
  |.emp=>(match T.get ty with|some ⟨.slice e n,_,_,_,_,_⟩=>(match bN 0 n with|true=>some (ty,sz,e,n)|false=>none)|_=>none)
  |_=>none)
 |_=>none
def HK(T:e7):List iq->List (Nat×D)->Rows->(Rows->Prop)->Prop
 |[],_,R,K=>K R
 |.ptr i _ _::l,env,R,K=>(match tU T R i with
  |some (ty,sz,e,n)=>uo R ⟨false,e,n,.gen []⟩ λk R=>tv (R.set i (some ⟨true,ty,sz,.gen [[.all k]]⟩)) λR=>HK T l env R K
  |none=>HK T l env R K)
 |_::l,env,R,K=>HK T l env R K
def UU(env:List (Nat×D)):List Operand->List iq
 |[]=>[]
 |.tmp t::l=>(match look env t with|.ptr i o f=>.ptr i o f::UU env l|_=>UU env l)
 |_::l=>UU env l
def wG(env:List (Nat×D)):List Oper->List iq
 |[]=>[]
 |o::l=>(match o.op with|.makeFunc _ _ captured=>UU env captured.toList|_=>[])++wG env l
def splitAt:List (Nat×Nat)->Nat->Option Nat
 |[],_=>none
 |(g,i)::l,f=>match bX g f with|true=>some i|false=>splitAt l f
def Zps:List (Nat×Operand)->Nat->Operand
 |[],t=>.tmp t
 |(s,x)::l,t=>match bX s t with|true=>x|false=>Zps l t
def UW:List (Nat×Operand)->List Oper->Option Operand
 |_,[]=>none
 |mv,o::l=>match o.op with
  |.call {callee:=.value (.func f),args,.. }=>(match splitAt splits f with
   |some i=>(match args.toList[i]? with|some (.tmp t)=>some (Zps mv t)|_=>none)
   |none=>UW mv l)
  |.move x=>UW (match o.dst with|some t=>(t,x)::mv|none=>mv) l
  |_=>UW mv l
def uA(ops:List Oper)(st:St)(K:St->Prop):Prop:=
 match UW [] ops with
 |none=>K st
 |some x=>match cj st.env x with
  |.bool t=>wS t (K (st.jN x true)) (K (st.jN x false))
  |_=>K st
def oO(T:e7)(G:List ba)(N M:Nat)(L:Code->St->(Ex->St->Prop)->Prop):Code->St->(Ex->St->Prop)->Prop
 |.skip,st,Q=>Q .normal st
 |.label _,st,Q=>Q .normal st
 |.region _ ops draw,st,Q=>uA ops.toList st λst=>HK T (wG st.env ops.toList) st.env st.rows λR=>HJ T G M ops ⟨st.env,R⟩ λst=>match draw with|true=>uz T G N M ops st Q|false=>lI T G N M ops ops.toList st λst=>Q .normal st
 |.seq a b,st,Q=>oO T G N M L a st λe st=>match e with|.normal=>I5 T a st λst=>oO T G N M L b st Q|.exit i=>Q (.exit i) st|.ret=>Q .ret st
 |.cond c a b,st,Q=>match cj st.env c with
  |.bool t=>wS t (oO T G N M L a (st.jN c true) Q) (oO T G N M L b (st.jN c false) Q)
  |.mF es=>(es.Nil->oO T G N M L a (st.jN c true) Q)/\oO T G N M L b (st.jN c false) Q
  |_=>False
 |.block id c,st,Q=>oO T G N M L c st λe st=>match e with|.normal=>Q .normal st|.exit i=>(match bX i id with|true=>Q .normal st|false=>Q (.exit i) st)|.ret=>Q .ret st
 |.exit id,st,Q=>Q (.exit id) st
 |.ret,st,Q=>Q .ret st
 |.scope c,st,Q=>oO T G N M L c st Q
 |c,st,Q=>L c st Q
def Fe(T:e7)(R:Rows)(env:List (Nat×D)):List ResultVar->(List D->Prop)->Prop
 |[],K=>K []
 |.tmp t::l,K=>(look env t).force λd=>cu d.isVal (Fe T R env l λds=>K (d::ds))
 |.cell a t::l,K=>wq T t (look env a) R λd _=>cu d.isVal (Fe T R env l λds=>K (d::ds))
def jW(ex:List Nat)(i r:Nat):Bool:=match ex[i]? with|some x=>bX x r|none=>false
def J3(ex:List Nat)(r:Nat):Bool:=ex.all λx=>!(bX x r)
def HY(ex:List Nat)(R:Rows)(i:Nat):Bool:=match ex[i]? with|some r=>(match R.getD r none with|none=>true|some _=>false)|none=>false
def ah.Eq:ah->ah->Prop
 |.ints k l,.ints k' m=>match decide (k=k')with|true=>l=m|false=>(ah.ints k l).l=(ah.ints k' m).l
 |.ag l,.ag m=>l=m
 |.gen es,.gen fs=>es=fs
 |.gen [],.ints _ m=>m=[]
 |.gen [],.ag m=>m=[]
 |.gen [],.ai _ m=>m=[]
 |.ai k l,.ai k' m=>(match FH k k' l with|some l'=>l'=m|none=>(ah.ai k l).l=(ah.ai k' m).l)
 |E,F=>E.l=F.l
theorem ah.wT{E F:ah}(h:ah.Eq E F):E.l=F.l:=by
 cases E with
 |gen es=>
  cases es with
  |nil=>cases F<;>simp_all [ah.Eq,ah.l]
  |cons e es=>cases F<;>simp_all [ah.Eq,ah.l]
 |ints k l=>
  cases F with
  |ints k' m=>
   simp only[ah.Eq]at h
   split at h
   ·rename_i hk;subst h;rw[oY hk]
   ·exact h
  |_=>exact h
 |ag l=>
  cases F with
  |ag m=>simp only[ah.Eq]at h;rw[h]
  |_=>exact h
 |ai k l=>
  cases F with
  |ai k' m=>
   simp only[ah.Eq]at h
   split at h
   ·rename_i l' hc
    obtain⟨e,hm⟩:=VI hc
    subst e
    simp only at hm
    rw[<-h,<-hm]
   ·exact h
  |_=>exact h
theorem ah.nX{E:ah}:E.Nil↔E.l=[]:=by
 cases E<;>simp[ah.Nil,ah.l]
def r8(ex:List Nat):List (Nat×Nat×Nat)->List (Nat×Nat×Nat)->Bool
 |[],[]=>true
 |(i,b,c)::l,(r,y,z)::m=>jW ex i r&&(bX b y&&(bX c z&&r8 ex l m))
 |_,_=>false
def oP(ex:List Nat):List iq->List iq->Bool
 |[],[]=>true
 |.ptr i b c::l,.ptr r y z::m=>jW ex i r&&(bX b y&&(bX c z&&oP ex l m))
 |.fn f ps::l,.fn g qs::m=>bX f g&&(r8 ex ps qs&&oP ex l m)
 |_,_=>false
def iF(ex:List Nat)(m:Nat)(R:Rows)(d p:D):Prop:=
 match p with
 |.int k n=>match d with|.int j q=>cu (decide (j=k)) (q=n)|_=>False
 |.bool b=>match d with|.bool a=>a=b|_=>False
 |.str s=>match d with|.str u=>u=s|_=>False
 |.iB=>match d with|.iB=>True|_=>False
 |.jC=>match d with|.jC=>True|_=>False
 |.gk f cs=>match d with|.gk g ds=>cu (bX f g&&oP ex cs ds) True|_=>False
 |.ptr i o f=>match d with|.ptr r o' f'=>cu (jW ex i r&&(bX o o'&&bX f f')) True|_=>False
 |.gd i=>match d with|.iB=>True|.gd r=>cu (jW ex i r) True|.ptr r o f=>cu (jW ex i r&&(bX o 0&&bX f 0)) True|_=>False
 |.c8=>match d with|.c8=>True|_=>False
 |.emp=>match d with|.c8=>True|.emp=>True|_=>False
 |.sl sz es fr=>match d with
  |.c8=>es.Nil
  |.emp=>es.Nil
  |.sl jV iQ fr'=>cu (!fr||fr') ((iQ.Nil\/jV=sz)/\ah.Eq iQ es)
  |.all r=>match R.getD r none with
   |some ⟨box,_,jV,iQ⟩=>cu (!box&&bX jV sz&&J3 ex r&&gD m r) (ah.Eq iQ es)
   |none=>False
  |.own r o n=>match R.getD r none with
   |some ⟨box,_,jV,iQ⟩=>cu (!box&&bX jV sz&&J3 ex r&&gD m r) (ah.Eq ((iQ.drop o).take n) es)
   |none=>False
  |_=>False
 |.all i=>match d with|.all r=>cu (jW ex i r) True|.c8=>cu (HY ex R i) True|.emp=>cu (HY ex R i) True|_=>False
 |.own i o n=>match d with|.own r o' n'=>cu (jW ex i r) (o'=o/\n'=n)|_=>False
 |.dead=>cu d.G6 True
 |_=>False
def Dj(ex:List Nat)(m:Nat)(R:Rows):List D->List D->Prop
 |[],[]=>True
 |d::ds,p::ps=>iF ex m R d p/\Dj ex m R ds ps
 |_,_=>False
def oQ(ex:List Nat)(m:Nat)(R:Rows)(d p:D):Prop:=
 match p with
 |.agg ps=>match d with|.agg ds=>Dj ex m R ds ps|_=>False
 |p=>iF ex m R d p
def uW(ex:List Nat)(m:Nat)(R:Rows):List D->List D->Prop
 |[],[]=>True
 |d::ds,p::ps=>oQ ex m R d p/\uW ex m R ds ps
 |_,_=>False
def r6(ex:List Nat)(m:Nat)(R:Rows)(d p:D):Prop:=
 match p with
 |.dw ps=>match d with|.dw ds=>uW ex m R ds ps|_=>False
 |p=>oQ ex m R d p
def lB(ex:List Nat)(m:Nat)(R:Rows):List Nat->List Row->Prop
 |[],[]=>True
 |r ::rs,⟨box,ty,sz,es⟩::ps=>(match R.getD r none with
  |some ⟨wW,jM,jV,iQ⟩=>cu (Bool.xor (!box) wW&&bX ty jM&&bX sz jV) (match box with
   |false=>ah.Eq iQ es
   |true=>match iQ,es with|.gen [e'],.gen [e]=>Dj ex m R e' e|_,_=>False)
  |none=>cu (!box&&bN 0 sz) es.Nil)/\lB ex m R rs ps
 |_,_=>False
def newAt(n0:Nat):List (Nat×Nat)->Nat->Nat
 |[],i=>n0+i
 |(j,r)::l,i=>match bX j i with|true=>r|false=>newAt n0 l i
def news(n0:Nat)(l:List (Nat×Nat)):Nat->Nat->List Nat
 |_,0=>[]
 |i,n+1=>newAt n0 l i::news n0 l (i+1) n
def Zs:List Nat->List Nat->Bool
 |[],[]=>true
 |x::l,y::m=>bX x y&&Zs l m
 |_,_=>false
def r7(M:Nat)(ex:List Nat):Bool:=(Zs (ex.take M) (cW M)&&(ex.drop M).all λr=>gD M r)&&Cv (ex.drop M)
def wY(m:Nat)(res:D)(rows:List Row)(d:D)(R:Rows):Prop:=
 ∃ex,r7 m ex=true/\r6 ex m R d res/\lB ex m R ex rows
def Fc:List D->Nat->List (Nat×D)
 |[],_=>[]
 |d::ds,i=>(i,d)::Fc ds (i+1)
def j5(T:e7)(G:List ba)(L:Code->St->(Ex->St->Prop)->Prop)(fn:Func)(args:List D)(rows:List Row)(Q:D->Rows->Prop):Prop:=
 match fn.body with
 |some c=>oO T G fn.ntmps rows.length L c ⟨Fc args 0,rows.map some⟩ λe st=>match e with
  |.exit _=>False
  |_=>Fe T st.rows st.env fn.results.toList λds=>match ds with|[d]=>Q d st.rows|ds=>Q (.dw ds) st.rows
 |none=>False
def om:List Nat->List D->List (Nat×D)
 |t::ts,d::ds=>(t,d)::om ts ds
 |_,_=>[]
def Ae:List iq->List Nat
 |[]=>[]
 |.fn f _::l=>f::Ae l
 |_::l=>Ae l
def Af:D->List Nat|.gk f cs=>f::Ae cs|_=>[]
def pZ:List D->List Nat
 |[]=>[]
 |d::l=>Af d++pZ l
def EN:D->List Nat|.agg cs=>pZ cs|d=>Af d
def oh:List D->List Nat
 |[]=>[]
 |d::l=>EN d++oh l
def Cp:D->List Nat|.dw ds=>oh ds|d=>EN d
def kp:List Row->List Nat
 |[]=>[]
 |⟨true,_,_,.gen [e]⟩::l=>pZ e++kp l
 |_::l=>kp l
def FT:Rows->List Nat
 |[]=>[]
 |some r::l=>kp [r]++FT l
 |none::l=>FT l
def pR(l:List Nat):Bool:=l.all λf=>bN f YB
def wU:List (Nat×D)->List Nat
 |[]=>[]
 |(_,d)::l=>Cp d++wU l
def Fg (T:e7)(G:List ba)(L:Code->St->(Ex->St->Prop)->Prop)(fn:Func)(args:List D)(rows:List Row)(Q:D->Rows->Prop)(M:Nat):Prop:=
 match fn.body with
 |some c =>match gD YB fn.nfree with
  |true =>match bX fn.nfree YB with
   |true=>oO T G fn.ntmps M L c ⟨om fn.params.toList args,rows.map some⟩ λe st=>match e with
    |.normal=>Q (.bool true) st.rows
    |_=>False
   |false=>match c with
    |.seq a b=>oO T G fn.ntmps M L a ⟨om fn.params.toList args,rows.map some⟩ λe st=>match e with
     |.normal=>cu (pR (wU st.env++FT st.rows)) (oO T G fn.ntmps M L b st λe st=>match e with
      |.normal=>Q (.bool true) st.rows
      |_=>False)
     |_=>False
    |_=>False
  |false=>oO T G fn.ntmps M L c ⟨Fc args 0,rows.map some⟩ λe st=>match e with
  |.exit _=>False
  |_=>Fe T st.rows st.env fn.results.toList λds=>match ds with|[d]=>Q d st.rows|ds=>Q (.dw ds) st.rows
 |none=>False
