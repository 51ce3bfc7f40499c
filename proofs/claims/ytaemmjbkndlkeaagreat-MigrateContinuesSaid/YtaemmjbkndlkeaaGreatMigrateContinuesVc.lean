import Derived.Test.YtaemmjbkndlkeaaGreatMigrateContinuesFy
open Nat renaming beq->bX,blt->bN,ble->gD
open BitVec renaming ofInt->dR
open List renaming replicate->cO,range->cW
set_option linter.all false
namespace Go.GD
open Go
variable {b:Bool}{p:Prop}
def cu(b:Bool)(p:Prop):Prop:=match b with|true=>p|false=>False
def wS(b:Bool)(p q:Prop):Prop:=match b with|true=>p|false=>q
theorem dd:cu b p↔b=true/\p:=by cases b<;>simp[cu]
theorem YI{p q:Prop}:wS b p q↔(b=true->p)/\(b=false->q):=by cases b<;>simp[wS]
abbrev Rows:=List (Option Row)
namespace D
def EN(n:Nat):D->Bool|.sl m _ _=>bX m n|.c9=>true|.emp=>true|_=>false
def toEs:D->ai|.sl _ es _=>es|_=>.gen []
def uJ:D->Bool|.agg _=>false|.dv _=>false|.dead=>false|_=>true
def isVal:D->Bool|.dv _=>false|.dead=>false|_=>true
def G7:D->Bool|.agg _=>false|.dv _=>false|_=>true
def plain:D->Bool|.bool _=>true|.int _ _=>true|.str _=>true|.iC=>true|.c9=>true|.emp=>true|.sl _ _ _=>true|_=>false
def cells:D->List D|.agg cs=>cs|d=>[d]
def force:D->(D->Prop)->Prop
 |.bool b,K=>K (.bool b)
 |.int k n,K=>K (.int k n)
 |.str s,K=>K (.str s)
 |.sl a b c,K=>K (.sl a b c)
 |.all a,K=>K (.all a)
 |.own a b c,K=>K (.own a b c)
 |.ptr a b c,K=>K (.ptr a b c)
 |.pa a b c d e f,K=>K (.pa a b c d e f)
 |.im a b c d,K=>K (.im a b c d)
 |.iC,K=>K .iC
 |.c9,K=>K .c9
 |.emp,K=>K .emp
 |.mH es,K=>K (.mH es)
 |.dead,K=>K .dead
 |.gj a b,K=>K (.gj a b)
 |.ga a,K=>K (.ga a)
 |.jC,K=>K .jC
 |.agg a,K=>K (.agg a)
 |.dv a,K=>K (.dv a)
end D
def D.jT:List D->(List D->Prop)->Prop
 |[],K=>K []
 |d::l,K=>d.force λd=>jT l λl=>K (d::l)
def tw:Rows->(Rows->Prop)->Prop
 |[],K=>K []
 |d::l,K=>tw l λl=>K (d::l)
inductive ta where
 |int (k:IntKind)|bool|str|sl (n:Nat)|other
inductive TK where
 |int (k:IntKind)|bool|string
 |slice (e:TypeId) (n:Nat)
 |struct (fs:List (Nat×TypeId×Nat))
 |array (len:Nat) (e:TypeId) (n:Nat)
 |other
structure TI where
 kind:TK
 size:Nat
 bytes:Nat
 sA:List ta
 zero:Option (List D)
 eq:Bool
abbrev iu:=List (TypeId×TI)
def iu.get:iu->TypeId->Option TI
 |[],_=>none
 |(u,i)::l,t=>match bX u t with|true=>some i|false=>iu.get l t
def TK.isAgg:TK->Bool|.struct _=>true|.array _ _ _=>true|_=>false
def ur(pl:Bool):ta->D->(D->Prop)->Prop
 |.int k,c,K=>cu (c.isInt k) (K (.int k c.toInt))
 |.bool,c,K=>cu c.isBool (K (.bool c.toBool))
 |.str,c,K=>cu c.isStr (K (.str c.toStr))
 |.sl n,c,K=>match pl with
  |true=>cu (c.EN n) (K (.sl n c.toEs false))
  |false=>cu c.uJ (c.force K)
 |.other,c,K=>match pl with
  |true=>match c with|.iC=>K .iC|_=>False
  |false=>cu c.uJ (c.force K)
def IY(pl:Bool)(e:List D):List ta->Nat->(List D->Prop)->Prop
 |[],_,K=>K []
 |t::ts,off,K=>ur pl t (e.getD off .dead) λd=>IY pl e ts (off+1) λds=>K (d::ds)
def uu(pl:Bool)(t:TI)(e:List D)(off:Nat)(K:D->Prop):Prop:=
 match t.kind.isAgg with
 |true=>IY pl e t.sA off λds=>K (.agg ds)
 |false=>match t.sA with
  |[y]=>ur pl y (e.getD off .dead) K
  |_=>False
def kK:List D->Nat->List D->List D
 |e,_,[]=>e
 |e,off,v::vs=>kK (e.set off v) (off+1) vs
def PH:Value->Option D
 |.bool b=>some (.bool b)
 |.int k n=>some (.int k n)
 |.string s=>some (.str s.data.toList)
 |.slice none 0 0=>some .c9
 |.pointer none=>some .iC
 |.nilIface=>some .jC
 |.nilFunc=>some .dead
 |_=>none
def AU:List Value->Option (List D)
 |[]=>some []
 |v::vs=>match PH v,AU vs with|some d,some ds=>some (d::ds)|_,_=>none
def FE:Value->Option D
 |.agg cs=>(AU cs.toList).map .agg
 |v=>PH v
structure St where
 env:List (Nat×D)
 rows:Rows
def look:List (Nat×D)->Nat->D
 |[],_=>.dead
 |(u,d)::l,t=>match bX u t with|true=>d|false=>look l t
def cq(env:List (Nat×D)):Operand->D
 |.tmp t=>look env t
 |.const v=>(FE v).getD .dead
 |.func f=>match bN f YB with|true=>.gj f []|false=>.dead
 |_=>.dead
def ba(k:IntKind)(x y:Int):Int:=k.wrap (dR k.bits x&&&dR k.bits y).toNat
def iH(k:IntKind)(x y:Int):Int:=k.wrap (dR k.bits x|||dR k.bits y).toNat
def ri(k:IntKind)(x y:Int):Int:=k.wrap (dR k.bits x^^^dR k.bits y).toNat
def oD(k:IntKind)(x y:Int):Int:=k.wrap (dR k.bits x&&&~~~dR k.bits y).toNat
def ep(k:IntKind)(x y:Int):Int:=k.wrap (x*2^(min y.toNat k.bits))
def bb(k:IntKind)(x y:Int):Int:=x.fdiv (2^(min y.toNat k.bits))
def Uu(op:BinOp)(k:IntKind)(x y:Int)(K:D->Prop):Prop:=
 match op with
 |.add=>K (.int k (k.wrap (x+y)))
 |.sub=>K (.int k (k.wrap (x-y)))
 |.mul=>K (.int k (k.wrap (x*y)))
 |.quo=>cu (decide (y≠0)) (K (.int k (k.wrap (x.tdiv y))))
 |.rem=>cu (decide (y≠0)) (K (.int k (x.tmod y)))
 |.and=>K (.int k (ba k x y))
 |.or=>K (.int k (iH k x y))
 |.xor=>K (.int k (ri k x y))
 |.andNot=>K (.int k (oD k x y))
 |.eql=>K (.bool (x==y))
 |.neq=>K (.bool (x !=y))
 |.lss=>K (.bool (decide (x<y)))
 |.leq=>K (.bool (decide (x<=y)))
 |.gtr=>K (.bool (decide (x>y)))
 |.geq=>K (.bool (decide (x>=y)))
 |_=>False
def O4:D->D->Bool
 |.int _ a,.int _ b=>a==b
 |.bool a,.bool b=>a==b
 |.str a,.str b=>decide (a=b)
 |_,_=>false
def eqs:List D->List D->Bool
 |[],_=>true
 |a::l,b::m=>O4 a b&&eqs l m
 |_::_,[]=>false
def fits:List ta->List D->Bool
 |[],[]=>true
 |.int k::t,d::l=>d.isInt k&&fits t l
 |.bool::t,d::l=>d.isBool&&fits t l
 |.str::t,d::l=>d.isStr&&fits t l
 |_,_=>false
def sB(T:iu)(op:BinOp)(t:TypeId)(x y:D)(K:D->Prop):Prop:=
 match x,y with
 |.int k a,.int k' b=>
  match op with
  |.shl=>cu (decide (0<=b)) (K (.int k (ep k a b)))
  |.shr=>cu (decide (0<=b)) (K (.int k (bb k a b)))
  |op=>cu (decide (k=k')) (Uu op k a b K)
 |.str a,.str b=>
  match op with
  |.add=>cu (decide (a.length+b.length<=maxLen)) (K (.str (a++b)))
  |.eql=>K (.bool (decide (a=b)))
  |.neq=>K (.bool (!decide (a=b)))
  |_=>False
 |.bool a,.bool b=>
  match T.get t with
  |some ⟨.bool,_,_,_,_,_⟩=>match op with
   |.eql=>K (.bool (a==b))
   |.neq=>K (.bool (!(a==b)))
   |_=>False
  |_=>False
 |.agg a,.agg b=>
  match T.get t with
  |some ti=>cu (ti.kind.isAgg&&bN 0 ti.size&&ti.eq&&fits ti.sA a&&fits ti.sA b)<|
   match op with
   |.eql=>K (.bool (eqs a b))
   |.neq=>K (.bool (!(eqs a b)))
   |_=>False
  |none=>False
 |_,_=>False
def LV(T:iu)(s d:TypeId)(x:D)(K:D->Prop):Prop:=
 match T.get s,T.get d with
 |some ⟨.int _,_,_,_,_,_⟩,some ⟨.int k,_,_,_,_,_⟩=>match x with
  |.int _ n=>K (.int k (k.wrap n))
  |_=>False
 |some ⟨.string,_,_,_,_,_⟩,some ⟨.string,_,_,_,_,_⟩=>match x with
  |.str s=>K (.str s)
  |_=>False
 |_,_=>False
def PF(T:iu)(s:TypeId)(f:Nat):Option (Nat×TypeId×Nat):=
 match T.get s with
 |some ⟨.struct fs,_,_,_,_,_⟩=>fs[f]?
 |_=>none
def EU(place:Nat->Option (Nat×Nat))(ev:Operand->D):List (Nat×Operand)->List D->(List D->Prop)->Prop
 |[],cs,K=>D.jT cs K
 |(i,x)::ps,cs,K=>match place i with
  |some (off,n)=>cu ((ev x).isVal&&bX (ev x).cells.length n&&gD (off+n) cs.length) (EU place ev ps (kK cs off (ev x).cells) K)
  |none=>False
def D.PN:D->D|.sl a b _=>.sl a b false|d=>d
def G3:List D->List D
 |[]=>[]
 |d::l=>d.PN::G3 l
def EW(n len:Nat)(ev:Operand->D):List (Nat×Operand)->List (List D)->(List (List D)->Prop)->Prop
 |[],es,K=>K es
 |(i,x)::ps,es,K=>cu (((ev x).isVal&&(G3 (ev x).cells).all D.plain)&&bX (G3 (ev x).cells).length n&&bN i len) (EW n len ev ps (es.set i (G3 (ev x).cells)) K)
def wq(row:Row):Rows->Nat->(Nat->Rows->Prop)->Prop
 |[],n,K=>K n [some row]
 |x::l,n,K=>wq row l (n+1) λk l=>K k (x::l)
def uq(R:Rows)(row:Row)(K:Nat->Rows->Prop):Prop:=wq row R 0 K
def ints(e:List D)(off:Nat):Nat->List Int
 |0=>[]
 |n+1=>(e.getD off .dead).toInt::ints e (off+1) n
def ag(e:List D)(off:Nat):Nat->List Bool
 |0=>[]
 |n+1=>(e.getD off .dead).toBool::ag e (off+1) n
def Cr(k:IntKind)(e:List D)(off:Nat):Nat->Bool
 |0=>true
 |n+1=>(e.getD off .dead).isInt k&&Cr k e (off+1) n
def Qs(e:List D)(off:Nat):Nat->Bool
 |0=>true
 |n+1=>(e.getD off .dead).isBool&&Qs e (off+1) n
def GY(k:IntKind)(l:List Int)(j:Nat):Nat->List D
 |0=>[]
 |n+1=>.int k (l.getD j 0)::GY k l (j+1) n
def GZ(l:List Bool)(j:Nat):Nat->List D
 |0=>[]
 |n+1=>.bool (l.getD j false)::GZ l (j+1) n
def wv(T:iu)(t:TypeId)(x:D)(R:Rows)(K:D->Rows->Prop):Prop:=
 match T.get t with
 |none=>False
 |some ti=>match x with
  |.ptr r i off=>match R.getD r none with
   |some ⟨box,_,sz,es⟩=>cu (gD (off+ti.size) sz) (uu (!box) ti (es.get i) off λd=>K d R)
   |none=>False
  |.pa r i off len k n=>match R.getD r none with
   |some ⟨_,_,sz,es⟩=>cu (gD (off+len) sz)<|match ti.kind,k with
    |.int j,some k=>cu (decide (j=k)&&Cr k (es.get i) off len) (K (.int k ((ints (es.get i) off len).getD n 0)) R)
    |.bool,none=>cu (Qs (es.get i) off len) (K (.bool ((ag (es.get i) off len).getD n false)) R)
    |_,_=>False
   |none=>False
  |.im sz es i off=>cu (gD (off+ti.size) sz) (uu true ti (es.get i) off λd=>K d R)
  |_=>False
def G2(T:iu)(t:TypeId)(x d:D)(R:Rows)(K:D->Rows->Prop):Prop:=
 match T.get t with
 |none=>False
 |some ti=>match x with
  |.ptr r i off=>match R.getD r none with
   |some ⟨box,ty,sz,es⟩=>cu (bN 0 ti.size&&d.isVal&&bX d.cells.length ti.size&&gD (off+ti.size) sz)<|match box with
    |true=>D.jT (kK (es.get i) off d.cells) λe=>tw (R.set r (some ⟨true,ty,sz,.gen [e]⟩)) λR=>K .dead R
    |false=>cu (d.cells.all D.plain) (tw (R.set r (some ⟨false,ty,sz,es.set i (kK (es.get i) off d.cells)⟩)) λR=>K .dead R)
   |none=>False
  |.pa r i off len k n=>match R.getD r none with
   |some ⟨box,ty,sz,es⟩=>cu (box&&gD (off+len) sz)<|match ti.kind,k,d with
    |.int j,some k,.int k' v=>cu (decide (j=k)&&decide (k'=k)&&Cr k (es.get i) off len)<|
     D.jT (kK (es.get i) off (GY k ((ints (es.get i) off len).set n v) 0 len)) λe=>tw (R.set r (some ⟨true,ty,sz,.gen [e]⟩)) λR=>K .dead R
    |.bool,none,.bool v=>cu (Qs (es.get i) off len)<|
     D.jT (kK (es.get i) off (GZ ((ag (es.get i) off len).set n v) 0 len)) λe=>tw (R.set r (some ⟨true,ty,sz,.gen [e]⟩)) λR=>K .dead R
    |_,_,_=>False
   |none=>False
  |_=>False
def Uw(T:iu)(t:TypeId)(x:D)(Uv:Bool)(n:Int)(R:Rows)(K:D->Rows->Prop):Prop:=
 match T.get t with
 |some ⟨.slice _ iD,_,_,_,_,_⟩=>match x with
  |.sl sz es _=>cu (bX sz iD&&bN 0 iD&&decide (0<=n/\n<es.len)) (K (.im sz es n.toNat 0) R)
  |.own r o m=>match R.getD r none with
   |some ⟨_,_,sz,_⟩=>cu (bX sz iD&&bN 0 iD&&decide (0<=n/\n<m)) (K (.ptr r (o+n.toNat) 0) R)
   |none=>False
  |.all r=>match R.getD r none with
   |some ⟨_,_,sz,es⟩=>cu (bX sz iD&&bN 0 iD&&decide (0<=n/\n<es.len)) (K (.ptr r n.toNat 0) R)
   |none=>False
  |_=>False
 |some ⟨.array len e iD,_,_,_,_,_⟩=>cu (bN 0 iD&&decide (0<=n/\n<len))<|match x with
  |.ptr r i off=>match Uv with
   |true=>K (.ptr r i (off+n.toNat*iD)) R
   |false=>match T.get e with
    |some ⟨.int k,_,_,_,_,_⟩=>cu (bX iD 1) (K (.pa r i off len (some k) n.toNat) R)
    |some ⟨.bool,_,_,_,_,_⟩=>cu (bX iD 1) (K (.pa r i off len none n.toNat) R)
    |_=>K (.ptr r i (off+n.toNat*iD)) R
  |.im sz es i off=>K (.im sz es i (off+n.toNat*iD)) R
  |_=>False
 |_=>False
def rG(x:Option Operand)(ev:Operand->D)(n:Int):Option Int:=match x with|none=>some n|some y=>match ev y with|.int _ m=>some m|_=>none
def LW(T:iu)(t:TypeId)(x:D)(lo hi:Option Operand)(ev:Operand->D)(R:Rows)(K:D->Rows->Prop):Prop:=
 match T.get t with
 |some ⟨.string,_,_,_,_,_⟩=>match x with
  |.str s=>match rG lo ev 0,rG hi ev s.length with
   |some l,some h=>cu (decide (0<=l/\l<=h/\h<=s.length)) (K (.str ((s.drop l.toNat).take (h.toNat-l.toNat))) R)
   |_,_=>False
  |_=>False
 |some ⟨.slice _ iD,_,_,_,_,_⟩=>match x with
  |.sl sz es fr=>match rG lo ev 0,rG hi ev es.len with
   |some l,some h=>cu (bX sz iD&&bN 0 iD&&decide (0<=l/\l<=h/\h<=es.len)) (K (.sl sz ((es.drop l.toNat).take (h.toNat-l.toNat)) fr) R)
   |_,_=>False
  |.all r=>match R.getD r none with
   |some ⟨_,_,sz,es⟩=>match rG lo ev 0,rG hi ev es.len with
    |some l,some h=>cu (bX sz iD&&bN 0 iD&&decide (0<=l/\l<=h/\h<=es.len)) (K (.own r l.toNat (h.toNat-l.toNat)) R)
    |_,_=>False
   |none=>False
  |.own r o n=>match R.getD r none with
   |some ⟨_,_,sz,_⟩=>match rG lo ev 0,rG hi ev n with
    |some l,some h=>cu (bX sz iD&&bN 0 iD&&decide (0<=l/\l<=h/\h<=n)) (K (.own r (o+l.toNat) (h.toNat-l.toNat)) R)
    |_,_=>False
   |none=>False
  |_=>False
 |some ⟨.array len e iD,_,_,_,_,_⟩=>match x,lo,hi with
  |.im sz es i off,none,none=>match T.get e with
   |some ⟨.int k,_,_,_,_,_⟩=>cu (bX iD 1&&(gD (off+len) sz&&Cr k (es.get i) off len)) (K (.sl 1 (.ints k (ints (es.get i) off len)) false) R)
   |_=>False
  |_,_,_=>False
 |_=>False
def uy(T:iu)(t:TypeId)(n m:Int)(R:Rows)(K:D->Rows->Prop):Prop:=
 match T.get t with
 |some ⟨.slice e _,_,_,_,_,_⟩=>match T.get e with
  |some ⟨_,sz,ll,_,some z,_⟩=>cu (bN 0 sz&&bX z.length sz&&z.all D.plain&&decide (0<=n/\n<=m/\m<=9223372036854775807/\(ll:Int)*m<=140737488355328))
   (uq R ⟨false,e,sz,ai.EV e n.toNat z⟩ λk R=>K (.all k) R)
  |_=>False
 |_=>False
def sG(T:iu)(t:TypeId)(x:D)(R:Rows)(K:D->Rows->Prop):Prop:=
 match T.get t with
 |some ⟨.string,_,_,_,_,_⟩=>match x with
  |.str s=>K (.int .i64 s.length) R
  |_=>False
 |some ⟨.slice _ _,_,_,_,_,_⟩=>match x with
  |.sl _ es _=>K (.int .i64 es.len) R
  |.own _ _ n=>K (.int .i64 n) R
  |.all r=>match R.getD r none with
   |some ⟨_,_,_,es⟩=>K (.int .i64 es.len) R
   |none=>False
  |.c9=>K (.int .i64 0) R
  |.emp=>K (.int .i64 0) R
  |_=>False
 |_=>False
def LX(T:iu)(t:TypeId)(parts:List (Nat×Operand))(ev:Operand->D)(R:Rows)(K:D->Rows->Prop):Prop:=
 match T.get t with
 |some ⟨.struct fs,_,_,_,some ds,_⟩=>cu (fs.all λf=>bN 0 f.2.2)<|EU (λi=>(fs[i]?).map λf=>(f.1,f.2.2)) ev parts ds λcs=>K (.agg cs) R
 |some ⟨.array _ _ iD,_,_,_,some ds,_⟩=>cu (bN 0 iD)<|EU (λi=>some (i*iD,iD)) ev parts ds λcs=>K (.agg cs) R
 |_=>False
def LY(T:iu)(t:TypeId)(len:Nat)(parts:List (Nat×Operand))(ev:Operand->D)(R:Rows)(K:D->Rows->Prop):Prop:=
 match T.get t with
 |some ⟨.slice e _,_,_,_,_,_⟩=>match T.get e with
  |some ⟨_,sz,_,_,some z,_⟩=>cu (bN 0 sz&&bX z.length sz&&gD (len*sz) 16777216&&z.all D.plain)<|
   EW sz len ev parts (cO len z) λes=>match len with|0=>K .emp R|_+1=>K (.sl sz (ai.PQ e es) true) R
  |_=>False
 |_=>False
def Un(t:TypeId)(len:Nat):Bool:=gD 2 len&&Fg.any λq=>bX q t
def Y7(T:iu)(t:TypeId)(len:Nat)(parts:List (Nat×Operand))(ev:Operand->D)(R:Rows)(K:D->Rows->Prop):Prop:=
 match T.get t with
 |some ⟨.slice e _,_,_,_,_,_⟩=>match T.get e with
  |some ⟨_,sz,_,_,some z,_⟩=>cu (bN 0 sz&&bX z.length sz&&gD (len*sz) 16777216&&z.all D.plain)<|
   EW sz len ev parts (cO len z) λes=>uq R ⟨false,e,sz,ai.PQ e es⟩ λk R=>K (.all k) R
  |_=>False
 |_=>False
def He(T:iu)(t:TypeId)(len:Nat)(parts:List (Nat×Operand))(ev:Operand->D)(R:Rows)(K:D->Rows->Prop):Prop:=
 wS (Un t len) (Y7 T t len parts ev R K) (LY T t len parts ev R K)
def GR:iy->Option (Nat×Nat×Nat)|.ptr r i off=>some (r,i,off)|_=>none
def Px:List iy->Option (List (Nat×Nat×Nat))
 |[]=>some []
 |x::l=>match GR x,Px l with|some p,some ps=>some (p::ps)|_,_=>none
def Ct:D->Option iy
 |.ptr r i off=>some (.ptr r i off)
 |.int k n=>some (.int k n)
 |.all r=>some (.arr r)
 |.sl a b fr=>some (.sl a b fr)
 |.gj f cs=>match Px cs with|some ps=>some (.fn f ps)|none=>none
 |_=>none
def J1:List D->Option (List iy)
 |[]=>some []
 |d::l=>match Ct d,J1 l with|some x,some xs=>some (x::xs)|_,_=>none
def gz(T:iu)(o:Op)(ev:Operand->D)(R:Rows)(K:D->Rows->Prop):Prop:=
 match o with
 |.move x|.assign x=>(ev x).force λd=>K d R
 |.alloc t=>match T.get t with
  |some ⟨_,sz,_,_,some ds,_⟩=>cu (bN 0 sz&&bX ds.length sz) (uq R ⟨true,t,sz,.gen [ds]⟩ λk R=>K (.ptr k 0 0) R)
  |_=>False
 |.box t x=>match T.get t with
  |some ⟨_,sz,_,_,_,_⟩=>cu (bN 0 sz&&(ev x).isVal&&bX (ev x).cells.length sz) (D.jT (ev x).cells λcs=>uq R ⟨true,t,sz,.gen [cs]⟩ λk R=>K (.ptr k 0 0) R)
  |none=>False
 |.build t parts=>LX T t parts.toList ev R K
 |.buildSlice t len parts=>He T t len parts.toList ev R K
 |.load t a=>wv T t (ev a) R K
 |.store t a x=>G2 T t (ev a) (ev x) R K
 |.nilCheck x=>match ev x with
  |.ptr a b c=>K (.ptr a b c) R
  |.im a b c d=>K (.im a b c d) R
  |_=>False
 |.binOp op t x y _=>sB T op t (ev x) (ev y) λd=>K d R
 |.unOp op _ x=>match op,ev x with
  |.neg,.int k n=>K (.int k (k.wrap (0-n))) R
  |.xor,.int k n=>K (.int k (ri k (if k.signed then-1 else k.max) n)) R
  |.not,.bool b=>K (.bool (!b)) R
  |_,_=>False
 |.convert s d x=>LV T s d (ev x) λv=>K v R
 |.fieldAddr s x f=>match PF T s f with
  |some (o,_,n)=>cu (bN 0 n)<|match ev x with
   |.ptr r i off=>K (.ptr r i (off+o)) R
   |.im sz es i off=>K (.im sz es i (off+o)) R
   |_=>False
  |none=>False
 |.field s x f=>match PF T s f with
  |some (o,t,n)=>match ev x,T.get t with
   |.agg cs,some ti=>cu (bN 0 n&&gD (o+n) cs.length)<|match ti.kind.isAgg with
    |true=>D.jT ((cs.drop o).take n) λl=>K (.agg l) R
    |false=>cu (cs.getD o .dead).uJ ((cs.getD o .dead).force λd=>K d R)
   |_,_=>False
  |none=>False
 |.indexAddr t x ix=>match ev ix with
  |.int _ n=>Uw T t (ev x) (match ix with|.const _=>true|_=>false) n R K
  |_=>False
 |.index t x ix=>match T.get t,ev x,ev ix with
  |some ⟨.string,_,_,_,_,_⟩,.str s,.int _ n=>cu (decide (0<=n/\n<s.length)) (K (.int .u8 ((s.getD n.toNat 0).toNat:Int)) R)
  |some ⟨.array len e iD,_,_,_,_,_⟩,.agg cs,.int _ n=>cu (bX iD 1&&(bX cs.length len&&decide (0<=n/\n<len)))<|match T.get e with
   |some ⟨.int k,_,_,_,_,_⟩=>cu (Cr k cs 0 len) (K (.int k ((ints cs 0 len).getD n.toNat 0)) R)
   |some ⟨.bool,_,_,_,_,_⟩=>cu (Qs cs 0 len) (K (.bool ((ag cs 0 len).getD n.toNat false)) R)
   |_=>False
  |_,_,_=>False
 |.extract x i=>match ev x with
  |.dv ds=>cu (ds.getD i .dead).isVal ((ds.getD i .dead).force λd=>K d R)
  |_=>False
 |.slice t x lo hi none=>LW T t (ev x) lo hi ev R K
 |.makeSlice t l c=>match ev l,ev c with
  |.int _ n,.int _ m=>uy T t n m R K
  |_,_=>False
 |.call {callee:=.builtin .len,args,argTypes}=>match args.toList,argTypes.toList with
  |[x],[t]=>sG T t (ev x) R K
  |_,_=>False
 |.makeFunc fn first captured=>match fn with
  |.func f=>cu (bX first.size 0&&bN f YB)<|match J1 (captured.toList.map ev)with
   |some cs=>K (.gj f cs) R
   |none=>False
  |_=>False
 |_=>False
def pos(r:Nat):List Nat->Nat->Nat
 |[],k=>k
 |x::l,k=>match bX x r with|true=>k|false=>pos r l (k+1)
def cv(r:Nat):List Nat->Bool
 |[]=>false
 |x::l=>match bX x r with|true=>true|false=>cv r l
def pb:List Nat->List Nat->Bool
 |[],_=>true
 |x::l,m=>match cv x m with|true=>pb l m|false=>false
def nB:List Nat->List Nat->Bool
 |[],_=>true
 |x::l,m=>match cv x m with|true=>false|false=>nB l m
def kX:List Nat->List Nat->List Nat
 |ids,[]=>ids
 |ids,x::l=>match cv x ids with|true=>kX ids l|false=>kX (ids++[x]) l
def Cv:List Nat->Bool
 |[]=>true
 |x::l=>match cv x l with|true=>false|false=>Cv l
def Co:iy->List Nat|.ptr r _ _=>[r]|.arr r=>[r]|.fn _ ps=>ps.map (·.1)|_=>[]
def od:List iy->List Nat
 |[]=>[]
 |x::l=>Co x++od l
def iy.jb(f:Nat->Nat)(du:Bool):iy->iy
 |.ptr r i off=>.ptr (f r) i off
 |.int k n=>.int k n
 |.arr r=>.arr (f r)
 |.sl a b fr=>.sl a b (fr&&du)
 |.fn g ps=>.fn g (ps.map λp=>(f p.1,p.2))
def nA:D->List Nat|.gj _ cs=>od cs|.ga r=>[r]|.all r=>[r]|.own r _ _=>[r]|.ptr r _ _=>[r]|.pa r _ _ _ _ _=>[r]|_=>[]
def pI:List D->List Nat
 |[]=>[]
 |d::l=>nA d++pI l
def Zf:D->List Nat|.agg cs=>pI cs|d=>nA d
def D.ed(ks:List Nat):D->D
 |.all r=>match cv r ks with|true=>.dead|false=>.all r
 |.own r o n=>match cv r ks with|true=>.dead|false=>.own r o n
 |.ptr r i off=>match cv r ks with|true=>.dead|false=>.ptr r i off
 |.pa r i off l k n=>match cv r ks with|true=>.dead|false=>.pa r i off l k n
 |.ga r=>match cv r ks with|true=>.dead|false=>.ga r
 |.gj f cs=>match nB (od cs) ks with|true=>.gj f cs|false=>.dead
 |d=>d
def D.kf(ks:List Nat):List D->List D
 |[]=>[]
 |d::l=>d.ed ks::kf ks l
def D.kill(ks:List Nat):D->D
 |.agg cs=>.agg (D.kf ks cs)
 |d=>d.ed ks
def D.pA(ks:List Nat):List D->List D
 |[]=>[]
 |d::l=>d.kill ks::pA ks l
def D.gk(ks:List Nat):D->D
 |.dv ds=>.dv (D.pA ks ds)
 |d=>d.kill ks
def Row.kill(ks:List Nat):Row->Row
 |⟨true,ty,sz,.gen [e]⟩=>⟨true,ty,sz,.gen [D.kf ks e]⟩
 |r=>r
def rD(ks:List Nat):Rows->Nat->Rows
 |[],_=>[]
 |x::l,i=>(match cv i ks with|true=>none|false=>match x with|some row=>some (row.kill ks)|none=>none)::rD ks l (i+1)
def FQ(ks:List Nat):List (Nat×D)->(List (Nat×D)->Prop)->Prop
 |[],K=>K []
 |(t,d)::l,K=>(d.gk ks).force λd=>FQ ks l λl=>K ((t,d)::l)
def oR(s:List UInt8):List Int:=s.map λb=>(b.toNat:Int)
def bytesOf(l:List Int):List UInt8:=l.map λn=>UInt8.ofNat n.toNat
def r3(R:Rows):D->Option (Nat×ai)
 |.c9=>some (0,.gen [])
 |.emp=>some (0,.gen [])
 |.sl sz es _=>some (sz,es)
 |.all r=>match R.getD r none with|some ⟨false,_,sz,es⟩=>some (sz,es)|_=>none
 |.own r o n=>match R.getD r none with|some ⟨false,_,sz,es⟩=>some (sz,(es.drop o).take n)|_=>none
 |_=>none
def Ce(R:Rows)(ke kx:TK)(y:D):Option (Nat×ai):=
 match kx with
 |.slice _ _=>r3 R y
 |.string=>match ke,y with
  |.int .u8,.str s=>some (1,.ints .u8 (oR s))
  |_,_=>none
 |_=>none
def HX:ai->Bool|.gen []=>true|_=>false
def Ch(e sz ll:Nat)(R:Rows)(ks:List Nat)(es ys:ai)(K:List Nat->D->Rows->Prop):Prop:=
 cu (decide (ll*(es.len+ys.len)<=140737488355328))<|tw (rD ks R 0++[some ⟨false,e,sz,es.app ys⟩]) λR'=>K ks (.all R.length) R'
def LF (T:iu)(M:Nat)(t tx:TypeId)(x y:D)(R:Rows)(K:List Nat->D->Rows->Prop):Prop:=
 match T.get t with
 |some ⟨.slice e iD,_,_,_,_,_⟩=>match T.get e,T.get tx with
  |some ⟨ke,sz,ll,_,some z,_⟩,some ⟨kx,_,_,_,_,_⟩=>match Ce R ke kx y with
   |some (sy,ys)=>cu ((bN 0 sz&&bX iD sz)&&(bX z.length sz&&z.all D.plain)&&(bN 0 ll&&(bX sy sz||HX ys)))<|
    match x with
    |.c9=>Ch e sz ll R [] (.gen []) ys K
    |.emp=>Ch e sz ll R [] (.gen []) ys K
    |.all r=>match R.getD r none with
     |some ⟨false,ty,s,es⟩=>cu ((bX s sz&&bX ty e)&&gD M r) (Ch e sz ll R [r] es ys K)
     |_=>False
    |.own r o n=>match R.getD r none with
     |some ⟨false,ty,s,es⟩=>cu ((bX s sz&&bX ty e)&&(gD M r&&bX o 0)) (Ch e sz ll R [r] (es.take n) ys K)
     |_=>False
    |_=>False
   |none=>False
  |_,_=>False
 |_=>False
def tJ(T:iu)(t tx:TypeId)(x y:D)(R:Rows)(K:D->Rows->Prop):Prop:=
 match T.get t with
 |some ⟨.slice e iD,_,_,_,_,_⟩=>match T.get e,T.get tx with
  |some ⟨ke,sz,_,_,_,_⟩,some ⟨kx,_,_,_,_,_⟩=>match Ce R ke kx y with
   |some (sy,ys)=>cu ((bN 0 sz&&bX iD sz)&&(bX sy sz||HX ys))<|
    match x with
    |.all r=>match R.getD r none with
     |some ⟨false,ty,s,es⟩=>cu (bX s sz)<|tw (R.set r (some ⟨false,ty,s,(ys.take (min ys.len es.len)).app (es.drop (min ys.len es.len))⟩)) λR'=>K (.int .i64 (min ys.len es.len:Nat)) R'
     |_=>False
    |.own r o n=>match R.getD r none with
     |some ⟨false,ty,s,es⟩=>cu (bX s sz)<|tw (R.set r (some ⟨false,ty,s,((es.take o).app (ys.take (min ys.len n))).app (es.drop (o+min ys.len n))⟩)) λR'=>K (.int .i64 (min ys.len n:Nat)) R'
     |_=>False
    |_=>False
   |none=>False
  |_,_=>False
 |_=>False
inductive Ans where
 |no
 |ok (res:D) (rows:List Row)
 |when (p:Prop) (res:D) (rows:List Row)
 |abs (α:Type) (v:α) (res:α->D) (rows:α->List Row)
 |kY (p:Prop) (α:Type) (v:α) (res:α->D) (rows:α->List Row)
structure bc where
 f:FuncId
 refs:List Bool
 flat:Bool
 m:List D->List Row->Ans
 gone:Option Nat
 oL:Bool
def oA:List bc->FuncId->Option bc
 |[],_=>none
 |x::l,f=>match bX x.f f with|true=>some x|false=>oA l f
def EL(R:Rows):D->Option D
 |.bool b=>some (.bool b)
 |.int k n=>some (.int k n)
 |.str s=>some (.str s)
 |.iC=>some .iC
 |.jC=>some .jC
 |.c9=>some (.sl 0 (.gen []) false)
 |.emp=>some (.sl 0 (.gen []) false)
 |.sl a b _=>some (.sl a b false)
 |.all r=>match R.getD r none with|some row=>(match row.box with|false=>some (.sl row.sz row.es false)|true=>none)|none=>none
 |.own r o n=>match R.getD r none with|some row=>(match row.box with|false=>some (.sl row.sz ((row.es.drop o).take n) false)|true=>none)|none=>none
 |_=>none
def IW(R:Rows):List D->Option (List D)
 |[]=>some []
 |d::ds=>match EL R d,IW R ds with|some x,some xs=>some (x::xs)|_,_=>none
def conv(R:Rows):D->Option D
 |.agg cs=>(IW R cs).map .agg
 |d=>EL R d
def D.mh(f:Nat->Nat)(du:Bool):D->D
 |.all r=>.all (f r)
 |.own r o n=>.own (f r) o n
 |.ptr r i off=>.ptr (f r) i off
 |.pa r i off l k n=>.pa (f r) i off l k n
 |.sl a b fr=>.sl a b (fr&&du)
 |.gj g cs=>.gj g (cs.map (iy.jb f du))
 |.ga r=>.ga (f r)
 |d=>d
def D.mi(f:Nat->Nat)(du:Bool):List D->List D
 |[]=>[]
 |d::l=>d.mh f du::mi f du l
def D.jb(f:Nat->Nat)(du:Bool):D->D
 |.agg cs=>.agg (D.mi f du cs)
 |d=>d.mh f du
def D.Ai(f:Nat->Nat)(du:Bool):List D->List D
 |[]=>[]
 |d::l=>d.jb f du::Ai f du l
def D.sD(f:Nat->Nat)(du:Bool):D->D
 |.dv ds=>.dv (D.Ai f du ds)
 |d=>d.jb f du
def Row.jb(f:Nat->Nat)(du:Bool):Row->Row
 |⟨true,ty,sz,.gen [e]⟩=>⟨true,ty,sz,.gen [D.mi f du e]⟩
 |r=>r
def Cn(R:Rows):List Nat->List Nat
 |[]=>[]
 |r::l=>(match R.getD r none with|some ⟨true,_,_,.gen [e]⟩=>pI e|_=>[])++Cn R l
def Cw:List Bool->List D->List Nat
 |true::bs,d::ds=>Zf d++Cw bs ds
 |false::bs,_::ds=>Cw bs ds
 |_,_=>[]
def ly:List Bool->List D->List Nat
 |true::bs,_::ds=>ly bs ds
 |false::bs,d::ds=>Zf d++ly bs ds
 |[],d::ds=>Zf d++ly [] ds
 |_,[]=>[]
def mf(R:Rows)(bs:List Bool)(args:List D):List Nat:=
 let a:=kX [] (Cw bs args)
 let b:=kX a (Cn R a)
 kX b (Cn R b)
def AR(R:Rows)(f:Nat->Nat):List Nat->Option (List Row)
 |[]=>some []
 |r::l=>match R.getD r none,AR R f l with
  |some row,some rs=>some (row.jb f false::rs)
  |_,_=>none
def sx(R:Rows)(f:Nat->Nat):List Bool->List D->Option (List D)
 |true::bs,d::ds=>match d.isVal,sx R f bs ds with|true,some xs=>some (d.jb f false::xs)|_,_=>none
 |false::bs,d::ds=>match conv R d,sx R f bs ds with|some x,some xs=>some (x::xs)|_,_=>none
 |[],d::ds=>match conv R d,sx R f [] ds with|some x,some xs=>some (x::xs)|_,_=>none
 |_,[]=>some []
def bk(ids:List Nat)(n0 i:Nat):Nat:=match ids[i]? with|some r=>r|none=>n0+(i-ids.length)
def tz(f:Nat->Nat):List Nat->List Row->Rows->Rows
 |r::ids,row::rows,R=>tz f ids rows (R.set r (some (row.jb f true)))
 |_,_,R=>R
def AV(f:Nat->Nat)(rows:List Row):Rows:=rows.map λrow=>some (row.jb f true)
inductive Ex where
 |normal|exit (id:Nat)|ret
def St.put(N:Nat)(st:St)(dst:Option Tmp)(d:D)(R:Rows)(K:St->Prop):Prop:=
 match dst with
 |none=>K ⟨st.env,R⟩
 |some t=>cu (bN t N) (K ⟨(t,d)::st.env,R⟩)
def St.jO(st:St)(c:Operand)(b:Bool):St:=
 match c with
 |.tmp t=>⟨(t,.bool b)::st.env,st.rows⟩
 |_=>st
def DI(R:Rows)(ids:List Nat)(res:D)(aj:List Row)(K:D->Rows->Prop):Prop:=
 cu (gD ids.length aj.length)<|(res.sD (bk ids R.length) true).force λres=>
  tw (tz (bk ids R.length) ids aj R++AV (bk ids R.length) (aj.drop ids.length)) λR=>K res R
def sE(G:List bc)(f:FuncId)(args:List D)(R:Rows)(K:D->Rows->Prop):Prop:=
 match oA G f with
 |some x=>
  match sx R (λr=>pos r (mf R x.refs args) 0) x.refs args,AR R (λr=>pos r (mf R x.refs args) 0) (mf R x.refs args)with
  |some az,some rows=>
   cu ((x.flat&&(match mf R x.refs args with|[]=>true|_=>false)||(match ly x.refs args with|[]=>true|_=>false))&&
    (pb (Cw x.refs args) (mf R x.refs args)&&pb (Cn R (mf R x.refs args)) (mf R x.refs args))&&
    (Cv (mf R x.refs args)&&nB (ly x.refs args) (mf R x.refs args)))<|
   match x.m az rows with
   |.ok res aj=>DI R (mf R x.refs args) res aj K
   |.when p res aj=>p/\DI R (mf R x.refs args) res aj K
   |.abs _ v res aj=>∀X,X=v->DI R (mf R x.refs args) (res X) (aj X) K
   |.kY p _ v res aj=>p/\∀X,X=v->DI R (mf R x.refs args) (res X) (aj X) K
   |.no=>False
  |_,_=>False
 |none=>False
def Qc(G:List bc)(f:FuncId):Option Nat:=match oA G f with|some x=>x.gone|none=>none
def EJ(f:Nat->Nat):List Nat->List Row->Rows->Rows
 |r::ids,row::rows,R=>EJ f ids rows (R.set r (some (row.jb f false)))
 |_,_,R=>R
def Pm(f:Nat->Nat)(rows:List Row):Rows:=rows.map λrow=>some (row.jb f false)
def GM(R:Rows)(L8 gid:List Nat)(res:D)(aj:List Row)(K:List Nat->D->Rows->Prop):Prop:=
 cu (gD L8.length aj.length)<|(res.sD (bk L8 R.length) false).force λres=>
  tw (EJ (bk L8 R.length) L8 aj (rD gid R 0)++Pm (bk L8 R.length) (aj.drop L8.length)) λR=>K gid res R
def HE(G:List bc)(M:Nat)(f:FuncId)(k:Nat)(args:List D)(R:Rows)(K:List Nat->D->Rows->Prop):Prop:=
 match oA G f with
 |some x=>
  match sx R (λr=>pos r (mf R x.refs args) 0) x.refs args,AR R (λr=>pos r (mf R x.refs args) 0) (mf R x.refs args)with
  |some az,some rows=>
   cu (((match ly x.refs args with|[]=>true|_=>false)&&(match x.refs with|[]=>false|_=>true))&&
    (pb (Cw x.refs args) (mf R x.refs args)&&pb (Cn R (mf R x.refs args)) (mf R x.refs args))&&
    (Cv (mf R x.refs args)&&((mf R x.refs args).drop k).all λr=>gD M r))<|
   match x.m az rows with
   |.abs _ v res aj=>∀X,X=v->GM R ((mf R x.refs args).take k) ((mf R x.refs args).drop k) (res X) (aj X) K
   |.kY p _ v res aj=>p/\∀X,X=v->GM R ((mf R x.refs args).take k) ((mf R x.refs args).drop k) (res X) (aj X) K
   |_=>False
  |_,_=>False
 |none=>False
def Z8(G:List bc)(f:FuncId):Bool:=match oA G f with|some x=>x.oL|none=>false
def Cm(G:List bc)(M:Nat)(f:FuncId)(args:List D)(R:Rows)(K:List Nat->D->Rows->Prop):Prop:=
 match oA G f with
 |some x=>
  match sx R (λr=>r) [] args,AR R (λr=>pos r (kX [] (ly [] args)) 0) (kX [] (ly [] args))with
  |some az,some rows=>
   cu (((match x.refs with|[]=>true|_=>false)&&rows.all λr=>!r.box)&&(Cv (kX [] (ly [] args))&&(pb (ly [] args) (kX [] (ly [] args))&&(kX [] (ly [] args)).all λr=>gD M r)))<|
   match x.m az []with
   |.abs _ v res aj=>∀X,X=v->GM R [] (kX [] (ly [] args)) (res X) (aj X) K
   |.kY p _ v res aj=>p/\∀X,X=v->GM R [] (kX [] (ly [] args)) (res X) (aj X) K
   |_=>False
  |_,_=>False
 |none=>False
def PE:D->Bool|.gj _ _=>false|.ga _=>false|.all _=>false|.own _ _ _=>false|.ptr _ _ _=>false|.pa _ _ _ _ _ _=>false|_=>true
def Us:List D->Bool
 |[]=>true
 |d::l=>match PE d with|true=>Us l|false=>false
def sF:D->Bool|.agg cs=>Us cs|d=>PE d
def Ut:List D->Bool
 |[]=>true
 |d::l=>match sF d with|true=>Ut l|false=>false
def uw:D->Bool|.dv ds=>Ut ds|d=>sF d
def LU(R:Rows)(res:D)(aj:List Row)(K:D->Rows->Prop):Prop:=
 match aj with
 |[]=>cu (uw res) (res.force λres=>K res R)
 |_=>(res.sD (bk [] R.length) true).force λres=>tw (R++AV (bk [] R.length) aj) λR=>K res R
def Cy:List Nat->Bool|[]=>true|_=>false
def JW(G:List bc)(f:FuncId)(args:List D)(R:Rows)(K:D->Rows->Prop):Prop:=
 match oA G f with
 |some x=>match x.refs with
  |[]=>match sx R (λr=>r) [] args with
   |some az=>cu (x.flat||Cy (ly [] args))<|match x.m az []with
    |.ok res aj=>LU R res aj K
    |.when p res aj=>p/\LU R res aj K
    |.abs _ v res aj=>∀X,X=v->LU R (res X) (aj X) K
    |.kY p _ v res aj=>p/\∀X,X=v->LU R (res X) (aj X) K
    |.no=>False
   |none=>False
  |_=>sE G f args R K
 |none=>False
def uS(T:iu)(e d:TypeId)(x:D)(R:Rows)(K:D->Prop):Prop:=
 match T.get e,T.get d with
 |some ⟨.int .u8,_,_,_,_,_⟩,some ⟨.string,_,_,_,_,_⟩=>match r3 R x with
  |some (s,es)=>match es.toI .u8 with
   |some l=>cu (bX s 1||HX es) (K (.str (bytesOf l)))
   |none=>False
  |none=>False
 |_,_=>False
def ai.Nil:ai->Prop
 |.gen es=>es=[]
 |.ints _ l=>l=[]
 |.ag l=>l=[]
 |.ah _ l=>l=[]
def JT(T:iu)(t:TypeId)(es:ai)(K:D->Prop):Prop:=
 match T.get t with
 |some ⟨.slice _ _,_,_,_,_,_⟩=>K (.mH es)
 |_=>False
def uR(mx:Bool)(x y:D)(K:D->Prop):Prop:=
 match x,y with
 |.int k a,.int k' b=>cu (decide (k=k')) (K (.int k (match mx with|true=>(if b>a then b else a)|false=>(if b<a then b else a))))
 |_,_=>False
def lF(T:iu)(G:List bc)(N M:Nat)(o:Oper)(st:St)(K:St->Prop):Prop:=
  match o.op with
  | .pick c a b=>match cq st.env c with
    | .bool t=>wS t ((cq st.env a).force λd=>st.put N o.dst d st.rows K) ((cq st.env b).force λd=>st.put N o.dst d st.rows K)
    |_=>False
  | .call {callee:= .value (.func f),args, .. }=>match Qc G f with
    | none=>match Z8 G f with
      |false=>JW G f (args.toList.map (cq st.env)) st.rows λd R=>st.put N o.dst d R K
      |true=>Cm G M f (args.toList.map (cq st.env)) st.rows λks d R=>FQ ks st.env λenv=>St.put N ⟨env,R⟩ o.dst d R K
    |some k=>cu (bN f YB)<|HE G M f k (args.toList.map (cq st.env)) st.rows λks d R=>FQ ks st.env λenv=>St.put N ⟨env,R⟩ o.dst d R K
  | .call {callee:= .value (.tmp t),args, .. }=>match look st.env t with
    | .gj f cs=>match Qc G f with
      | none=>match Z8 G f with
        |false=>JW G f (args.toList.map (cq st.env)++cs.map iy.d) st.rows λd R=>st.put N o.dst d R K
        |true=>False
      |some k=>cu (bN f YB||bX args.size 1)<|HE G M f k (args.toList.map (cq st.env)++cs.map iy.d) st.rows λks d R=>FQ ks st.env λenv=>St.put N ⟨env,R⟩ o.dst d R K
    |_=>False
  | .call {callee:= .builtin .append,args,argTypes}=>match args.toList,argTypes.toList with
    |[x,y],[t,tx]=>LF T M t tx (cq st.env x) (cq st.env y) st.rows λks d R=>FQ ks st.env λenv=>St.put N ⟨env,R⟩ o.dst d R K
    |_,_=>False
  | .call {callee:= .builtin .copy,args,argTypes}=>match args.toList,argTypes.toList with
    |[x,y],[t,tx]=>tJ T t tx (cq st.env x) (cq st.env y) st.rows λd R=>st.put N o.dst d R K
    |_,_=>False
  | .call {callee:= .builtin .min,args, .. }=>match args.toList with
    |[x,y]=>uR false (cq st.env x) (cq st.env y) λd=>st.put N o.dst d st.rows K
    |_=>False
  | .call {callee:= .builtin .max,args, .. }=>match args.toList with
    |[x,y]=>uR true (cq st.env x) (cq st.env y) λd=>st.put N o.dst d st.rows K
    |_=>False
  | .convert s d x=>match T.get s with
    |some ⟨.slice e _,_,_,_,_,_⟩=>uS T e d (cq st.env x) st.rows λd=>st.put N o.dst d st.rows K
    |_=>gz T (.convert s d x) (cq st.env) st.rows λd R=>st.put N o.dst d R K
  | .binOp op t x y ty=>match op,cq st.env x,cq st.env y with
    | .eql, .sl _ es _, .c9=>JT T t es λd=>st.put N o.dst d st.rows K
    | .eql, .all r, .c9=>match st.rows.getD r none with
      |some ⟨_,_,_,es⟩=>JT T t es λd=>st.put N o.dst d st.rows K
      |none=>False
    |_,_,_=>gz T (.binOp op t x y ty) (cq st.env) st.rows λd R=>st.put N o.dst d R K
  |op=>gz T op (cq st.env) st.rows λd R=>st.put N o.dst d R K
def lL(T:iu)(G:List bc)(N M:Nat)(ops:Array Oper):List Oper->St->(St->Prop)->Prop
  |[],st,K=>K st
  | o :: l, st,K=>match o.guard with
    |none=>lF T G N M o st λst=>lL T G N M ops l st K
    | some (j,want)=>match(ops[j]?).bind (·.dst) with
      | some g=>match look st.env g with
        | .bool b=>wS b
            (match want with|true=>lF T G N M o (st.jO (.tmp g) true) λst=>lL T G N M ops l st K|false=>(st.jO (.tmp g) true).put N o.dst (.dv []) st.rows λst=>lL T G N M ops l st K)
            (match want with|false=>lF T G N M o (st.jO (.tmp g) false) λst=>lL T G N M ops l st K|true=>(st.jO (.tmp g) false).put N o.dst (.dv []) st.rows λst=>lL T G N M ops l st K)
        | .dv []=>st.put N o.dst (.dv []) st.rows λst=>lL T G N M ops l st K
        |_=>False
      |none=>False
def rO(G:List bc):Op->Bool
 |.store _ _ _=>true
 |.call {callee:=.value (.func f),.. }=>match oA G f with|some x=>(match x.refs with|[]=>x.oL|_=>true)|none=>true
 |.call {callee:=.value (.tmp _),.. }=>true
 |.call {callee:=.builtin .append,.. }=>true
 |.call {callee:=.builtin .copy,.. }=>true
 |_=>false
def kO(G:List bc)(o:Op):Bool:=!rO G o
def Bf(G:List bc)(ops:Array Oper)(b:Array Nat)(i j:Nat):Bool:=
 match ops[i]?,ops[j]? with
 |some x,some y=>
  (x.apart ops y||(b.getD j 0).testBit i)&&((kO G x.op&&kO G y.op)||(b.getD j 0).testBit i)
 |_,_=>true
def Hv(G:List bc)(ops:Array Oper):Bool:=
 let b:=Region.before ops
 (cW ops.size).all λj=>(match ops[j]? with|some o=>o.after.all λe=>!Region.binds .any e||bN e.on j|none=>true)&&(cW j).all λi=>Bf G ops b i j
def kM(ops:Array Oper)(i a:Nat):Bool:=(ops.toList.drop i).all λo=>match o.dst with|some d=>!(bX d a)|none=>true
def my:List Operand->List Nat
 |[]=>[]
 |.tmp a::l=>a::my l
 |_::l=>my l
def pj:Op->Option (List Nat)
 |.assign x=>some (my [x])
 |.move x=>some (my [x])
 |.extract x _=>some (my [x])
 |.nilCheck x=>some (my [x])
 |.fieldAddr _ x _=>some (my [x])
 |.buildSlice t len parts=>(match Un t len with|true=>none|false=>some (my (parts.toList.map (·.2))))
 |_=>none
def lJ(env:List (Nat×D))(op:Op):Option (List Nat):=
 match pj op with
 |some q=>some q
 |none=>match op with
  |.build _ parts=>some (my (parts.toList.map (·.2)))
  |.binOp _ _ x y _=>match cq env x with|.int _ _=>some (my [x,y])|.str _=>some (my [x,y])|.bool _=>some (my [x,y])|_=>none
  |.unOp _ _ x=>some (my [x])
  |.convert _ _ x=>match cq env x with|.int _ _=>some (my [x])|.str _=>some (my [x])|_=>none
  |.field _ x _=>some (my [x])
  |.index _ x y=>some (my [x,y])
  |.slice _ x (some y) (some z) none=>match cq env x with|.str _=>some (my [x,y,z])|_=>none
  |.slice _ x (some y) none none=>match cq env x with|.str _=>some (my [x,y])|_=>none
  |.slice _ x none (some z) none=>match cq env x with|.str _=>some (my [x,z])|_=>none
  |.indexAddr _ x y=>match cq env x with|.sl _ _ _=>some (my [x,y])|_=>none
  |.load _ x=>match cq env x with|.im _ _ _ _=>some (my [x])|_=>none
  |.call {callee:=.builtin .len,args,.. }=>match args.toList with|[x]=>(match cq env x with|.str _=>some (my [x])|.sl _ _ _=>some (my [x])|_=>none)|_=>none
  |_=>none
def Hf:D->Bool|.ptr _ _ _=>true|_=>false
def Jj:D->Bool|.emp=>true|.c9=>true|_=>false
def CK(ops:Array Oper)(env:List (Nat×D))(i j:Nat)(op:Op)(l:List Operand):Bool:=
 match op,l with
 |.load _ (.tmp a),.tmp x::_=>kM ops i a&&(kM ops j x&&(Hf (look env a)&&Jj (look env x)))
 |_,_=>false
def pf:D->Bool|.int _ _=>true|.str _=>true|.bool _=>true|.sl _ _ _=>true|.all _=>true|_=>false
def CL(ops:Array Oper)(env:List (Nat×D))(i:Nat)(op:Op)(dst:Option Nat):Bool:=
 match op,dst with
 |.load _ (.tmp a),some t=>kM ops i a&&(Hf (look env a)&&(kM ops (i+1) t&&pf (look env t)))
 |_,_=>false
def L3(G:List bc)(ops:Array Oper)(env:List (Nat×D))(i j:Nat):Bool:=
 match ops[i]?,ops[j]? with
 |some x,some y=>(match x.guard,y.guard,x.op,y.op with
  |none,none,.load _ (.tmp a),.store _ (.tmp b) _=>kM ops i a&&(kM ops j b&&(match look env a,look env b with|.ptr r _ _,.ptr r' _ _=>!(bX r r')|.im _ _ _ _,.ptr _ _ _=>true|_,_=>false))
  |none,none,op,.store _ (.tmp b) _=>(match lJ env op with|some q=>(q.all λa=>kM ops i a)&&(kM ops j b&&(match look env b with|.ptr _ _ _=>true|_=>false))|none=>false)
  |none,none,op,.call {callee:=.value (.func f),.. }=>(match(match Qc G f with|some _=>true|none=>Z8 G f)with|true=>false|false=>match lJ env op with|some q=>q.all λa=>kM ops i a|none=>false)
  |none,none,op,.call {callee:=.builtin .append,args,.. }=>(match pj op with|some q=>(q.all λa=>kM ops i a&&Hf (look env a))&&(match x.dst with|some t=>kM ops (i+1) t&&Hf (look env t)|none=>true)|none=>CK ops env i j op args.toList||CL ops env i op x.dst)
  |_,_,_,_=>false)
 |_,_=>false
def uE(ops:Array Oper)(j:Nat):Bool:=
 match ops[j]? with
 |some y=>match y.guard,y.op with
  |none,.alloc _=>(match y.dst with|none=>true|some u=>(cW ops.size).all λk=>bX k j||(match(ops[k]?).bind (·.dst)with|some d=>!(bX d u)|none=>true))
  |_,_=>false
 |none=>false
def wC(G:List bc)(ops:Array Oper)(env:List (Nat×D))(b:Array Nat)(i j:Nat):Bool:=
 match ops[i]?,ops[j]? with
 |some x,some y=>
  (x.apart ops y||(b.getD j 0).testBit i)&&((kO G x.op&&kO G y.op)||(b.getD j 0).testBit i||(L3 G ops env i j||uE ops j))
 |_,_=>true
def P9(G:List bc)(ops:Array Oper)(env:List (Nat×D)):Bool:=
 let b:=Region.before ops
 (cW ops.size).all λj=>(match ops[j]? with|some o=>o.after.all λe=>!Region.binds .any e||bN e.on j|none=>true)&&(cW j).all λi=>wC G ops env b i j
def Hl(x:Nat):List Nat->Nat->List Nat
 |l,0=>x::l
 |[],_=>[x]
 |y::l,n+1=>y::Hl x l n
def CV(m:Nat):List Nat->Nat->Nat->Nat
 |[],_,r=>r
 |y::l,k,r=>CV m l (k+1) (match m.testBit y with|true=>k+1|false=>r)
def CW:List Oper->Bool
 |[]=>false
 |o::l=>match o.op with|.buildSlice _ 0 _=>true|_=>CW l
def Fs(e:Bool)(op:Op):Bool:=match pj op with|some _=>true|none=>(match op with|.load _ _=>e|_=>false)
def CX(e:Bool)(ops:Array Oper)(b:Array Nat):List Nat->List Nat->List Nat
 |[],acc=>acc
 |j ::js,acc=>CX e ops b js (match ops[j]? with
  |some o=>(match o.guard with
   |none=>(match Fs e o.op with|true=>Hl j acc (CV (b.getD j 0) acc 0 0)|false=>acc++[j])
   |some _=>acc++[j])
  |none=>acc)
def Rl(ops:Array Oper)(b:Array Nat):Bool:=
 (cW ops.size).any λj=>(match ops[j]? with|some y=>(match y.op with|.load _ _=>true|_=>false)|none=>false)&&(cW j).any λi=>(match ops[i]? with|some x=>(match x.op with|.call {callee:=.builtin .append,.. }=>true|_=>false)|none=>false)&&!((b.getD j 0).testBit i)
def U3(ops:Array Oper):List Nat:=CX (CW ops.toList||Rl ops (Region.before ops)) ops (Region.before ops) (cW ops.size) []
def UM(p:List Nat)(n:Nat):Bool:=bX p.length n&&(((cW n).all λi=>cv i p)&&((p.all λi=>bN i n)&&Cv p))
def CO(p:List Nat)(e:Edge):Edge:=⟨pos e.on p 0,e.ground⟩
def L5(p:List Nat)(o:Oper):Oper:=⟨o.dst,o.op,o.type,o.pos,o.after.map (CO p),match o.guard with|none=>none|some (j,w)=>some (pos j p 0,w)⟩
def na(p:List Nat)(ops:Array Oper):Array Oper:=(p.map λi=>L5 p (ops.getD i default)).toArray
def uA(T:iu)(G:List bc)(N M:Nat)(ops:Array Oper)(st:St)(Q:Ex->St->Prop):Prop:=
 match Hv G ops with
 |true=>lL T G N M ops ops.toList st λst=>Q .normal st
 |false=>cu (UM (U3 ops) ops.size)<|lL T G N M (na (U3 ops) ops) (na (U3 ops) ops).toList st λst=>cu (P9 G (na (U3 ops) ops) st.env) (Q .normal st)
def G5(i n:Nat):List D->Option (List D)
 |[]=>none
 |d::l=>match d,l with
  |.iC,.c9::m=>some (.ga i:: .all n::m)
  |d,l=>match G5 i n l with|some l'=>some (d::l')|none=>none
def Rm(T:iu)(t:TypeId):Bool:=match T.get t with|some ⟨_,_,_,_,some ds,_⟩=>(match G5 0 0 ds with|some _=>true|none=>false)|_=>false
def uK(T:iu):List Oper->Bool
 |[]=>false
 |o::l=>match o.op with|.alloc t=>(match Rm T t with|true=>true|false=>uK T l)|_=>uK T l
def Rn:iu->Option TypeId
 |[]=>none
 |(u,i)::l=>match i.kind with|.int .u8=>some u|_=>Rn l
def Jab(T:iu):Code->Option TypeId
 |.region _ ops _=>(match uK T ops.toList with|true=>Rn T|false=>none)
 |_=>none
def I5(n:Nat):Rows->Nat->Option (Nat×TypeId×Nat×List D)
 |[],_=>none
 |x::l,i=>match x with
  |some ⟨true,ty,sz,.gen [e]⟩=>(match G5 i n e with|some e'=>some (i,ty,sz,e')|none=>I5 n l (i+1))
  |_=>I5 n l (i+1)
def I6(T:iu)(a:Code)(st:St)(K:St->Prop):Prop:=
 match Jab T a with
 |none=>K st
 |some u=>match I5 st.rows.length st.rows 0 with
  |none=>K st
  |some (i,ty,sz,e)=>D.jT e λe=>tw (st.rows.set i (some ⟨true,ty,sz,.gen [e]⟩)++[some ⟨false,u,1,.ints .u8 []⟩]) λR=>K ⟨st.env,R⟩
def D.Bt(R:Rows)(ks:List Nat):D->D
 |.all r=>match cv r ks with
  |true=>(match R.getD r none with|some ⟨false,_,sz,es⟩=>.sl sz es false|_=>.dead)
  |false=>.all r
 |.ptr r i off=>match cv r ks with
  |true=>(match R.getD r none with|some ⟨true,_,sz,.gen [e]⟩=>(match e.all D.plain with|true=>.im sz (.gen [e]) i off|false=>.dead)|_=>.dead)
  |false=>.ptr r i off
 |d=>d.ed ks
def D.r4(R:Rows)(ks:List Nat):List D->List D
 |[]=>[]
 |d::l=>d.Bt R ks::r4 R ks l
def D.HI(R:Rows)(ks:List Nat):D->D
 |.agg cs=>.agg (D.r4 R ks cs)
 |d=>d.Bt R ks
def D.HJ(R:Rows)(ks:List Nat):List D->List D
 |[]=>[]
 |d::l=>d.HI R ks::HJ R ks l
def D.Bu(R:Rows)(ks:List Nat):D->D
 |.dv ds=>.dv (D.HJ R ks ds)
 |d=>d.HI R ks
def Row.lW(R:Rows)(ks:List Nat):Row->Row
 |⟨true,ty,sz,.gen [e]⟩=>⟨true,ty,sz,.gen [D.r4 R ks e]⟩
 |r=>r
def JZ(R0:Rows)(ks:List Nat):Rows->Nat->Rows
 |[],_=>[]
 |x::l,i=>(match cv i ks with|true=>none|false=>match x with|some row=>some (row.lW R0 ks)|none=>none)::JZ R0 ks l (i+1)
def DX(R:Rows)(ks:List Nat):List (Nat×D)->(List (Nat×D)->Prop)->Prop
 |[],K=>K []
 |(t,d)::l,K=>(d.Bu R ks).force λd=>DX R ks l λl=>K ((t,d)::l)
def CY:List D->List Nat
 |[]=>[]
 |d::l=>(match d with|.all r=>[r]|_=>[])++CY l
def Ro:D->List Nat|.agg cs=>CY cs|.all r=>[r]|_=>[]
def Ft(R:Rows)(n:Nat)(d:D):List Nat:=
 match d with
 |.ptr r _ off=>match R.getD r none with|some ⟨true,_,_,.gen [e]⟩=>CY ((e.drop off).take n)|_=>[]
 |_=>[]
def Hm:List (Nat×List Nat)->Nat->Option (List Nat)
 |[],_=>none
 |(u,x)::l,t=>match bX u t with|true=>some x|false=>Hm l t
def L9(env:List (Nat×D)):List (Nat×D)->Nat->D
 |[],t=>look env t
 |(u,x)::l,t=>match bX u t with|true=>x|false=>L9 env l t
def uL(env:List (Nat×D))(acc:List (Nat×List Nat)):Operand->List Nat
 |.tmp t=>match Hm acc t with|some l=>l|none=>Ro (look env t)
 |_=>[]
def wG(env:List (Nat×D))(acc:List (Nat×List Nat)):List Operand->List Nat
 |[]=>[]
 |x::l=>uL env acc x++wG env acc l
def JA(T:iu)(env:List (Nat×D))(R:Rows)(acc:List (Nat×List Nat))(pa:List (Nat×D))(o:Oper):List (Nat×List Nat):=
 match o.dst with
 |none=>acc
 |some t=>match o.op with
  |.load ty (.tmp p)=>(t,Ft R (match T.get ty with|some i=>i.size|none=>0) (L9 env pa p))::acc
  |.move x=>(t,uL env acc x)::acc
  |.slice _ x _ _ _=>(t,uL env acc x)::acc
  |_=>acc
def JB(T:iu)(env:List (Nat×D))(pa:List (Nat×D))(o:Oper):List (Nat×D):=
 match o.dst with
 |none=>pa
 |some t=>match o.op with
  |.fieldAddr s (.tmp p) f=>(match PF T s f with|some (k,_,_)=>(match L9 env pa p with|.ptr r i off=>(t,.ptr r i (off+k))::pa|_=>pa)|none=>pa)
  |.move (.tmp p)=>(t,L9 env pa p)::pa
  |.nilCheck (.tmp p)=>(t,L9 env pa p)::pa
  |_=>pa
def JC(G:List bc)(f:FuncId):Bool:=match oA G f with|some x=>x.oL||(match x.refs with|[]=>!x.flat|_=>false)|none=>false
def Rp(T:iu)(env:List (Nat×D))(pa:List (Nat×D))(t:TypeId)(p:Nat):List Nat:=
 match T.get t with
 |some ⟨.array _ _ _,_,_,_,_,_⟩=>(match L9 env pa p with|.ptr r _ _=>[r]|_=>[])
 |_=>[]
def Sg(T:iu)(G:List bc)(env:List (Nat×D))(R:Rows):List (Nat×List Nat)->List (Nat×D)->List Oper->List Nat
 |_,_,[]=>[]
 |acc,pa,o::l=>(match o.op with|.call {callee:=.value (.func f),args,.. }=>(match JC G f with|true=>wG env acc args.toList|false=>[])|.slice t (.tmp p) _ _ _=>Rp T env pa t p|_=>[])++Sg T G env R (JA T env R acc pa o) (JB T env pa o) l
def tV(M:Nat)(R:Rows):List Nat->List Nat
 |[]=>[]
 |r::l=>match gD M r&&(match R.getD r none with|some ⟨false,_,_,_⟩=>true|some ⟨true,_,_,.gen [e]⟩=>e.all D.plain|_=>false)with|true=>r::tV M R l|false=>tV M R l
def HK(T:iu)(G:List bc)(M:Nat)(ops:Array Oper)(st:St)(K:St->Prop):Prop:=
 match tV M st.rows (Sg T G st.env st.rows [] [] ops.toList)with
 |[]=>K st
 |ks=>DX st.rows ks st.env λenv=>tw (JZ st.rows ks st.rows 0) λR=>K ⟨env,R⟩
def tW(T:iu)(R:Rows)(i:Nat):Option (TypeId×Nat×TypeId×Nat):=
 match R.getD i none with
 |some ⟨true,ty,sz,.gen [[d]]⟩=>(match d with
  |.c9=>(match T.get ty with|some ⟨.slice e n,_,_,_,_,_⟩=>(match bN 0 n with|true=>some (ty,sz,e,n)|false=>none)|_=>none)
  |.emp=>(match T.get ty with|some ⟨.slice e n,_,_,_,_,_⟩=>(match bN 0 n with|true=>some (ty,sz,e,n)|false=>none)|_=>none)
  |_=>none)
 |_=>none
def HL(T:iu):List iy->List (Nat×D)->Rows->(Rows->Prop)->Prop
 |[],_,R,K=>K R
 |.ptr i _ _::l,env,R,K=>(match tW T R i with
  |some (ty,sz,e,n)=>uq R ⟨false,e,n,.gen []⟩ λk R=>tw (R.set i (some ⟨true,ty,sz,.gen [[.all k]]⟩)) λR=>HL T l env R K
  |none=>HL T l env R K)
 |_::l,env,R,K=>HL T l env R K
def U4(env:List (Nat×D)):List Operand->List iy
 |[]=>[]
 |.tmp t::l=>(match look env t with|.ptr i o f=>.ptr i o f::U4 env l|_=>U4 env l)
 |_::l=>U4 env l
def wH(env:List (Nat×D)):List Oper->List iy
 |[]=>[]
 |o::l=>(match o.op with|.makeFunc _ _ captured=>U4 env captured.toList|_=>[])++wH env l
def splitAt:List (Nat×Nat)->Nat->Option Nat
 |[],_=>none
 |(g,i)::l,f=>match bX g f with|true=>some i|false=>splitAt l f
def Zpb:List (Nat×Operand)->Nat->Operand
 |[],t=>.tmp t
 |(s,x)::l,t=>match bX s t with|true=>x|false=>Zpb l t
def U5:List (Nat×Operand)->List Oper->Option Operand
 |_,[]=>none
 |mv,o::l=>match o.op with
  |.call {callee:=.value (.func f),args,.. }=>(match splitAt splits f with
   |some i=>(match args.toList[i]? with|some (.tmp t)=>some (Zpb mv t)|_=>none)
   |none=>U5 mv l)
  |.move x=>U5 (match o.dst with|some t=>(t,x)::mv|none=>mv) l
  |_=>U5 mv l
def uB(ops:List Oper)(st:St)(K:St->Prop):Prop:=
 match U5 [] ops with
 |none=>K st
 |some x=>match cq st.env x with
  |.bool t=>wS t (K (st.jO x true)) (K (st.jO x false))
  |_=>K st
def oM(T:iu)(G:List bc)(N M:Nat)(L:Code->St->(Ex->St->Prop)->Prop):Code->St->(Ex->St->Prop)->Prop
 |.skip,st,Q=>Q .normal st
 |.label _,st,Q=>Q .normal st
 |.region _ ops draw,st,Q=>uB ops.toList st λst=>HL T (wH st.env ops.toList) st.env st.rows λR=>HK T G M ops ⟨st.env,R⟩ λst=>match draw with|true=>uA T G N M ops st Q|false=>lL T G N M ops ops.toList st λst=>Q .normal st
 |.seq a b,st,Q=>oM T G N M L a st λe st=>match e with|.normal=>I6 T a st λst=>oM T G N M L b st Q|.exit i=>Q (.exit i) st|.ret=>Q .ret st
 |.cond c a b,st,Q=>match cq st.env c with
  |.bool t=>wS t (oM T G N M L a (st.jO c true) Q) (oM T G N M L b (st.jO c false) Q)
  |.mH es=>(es.Nil->oM T G N M L a (st.jO c true) Q)/\oM T G N M L b (st.jO c false) Q
  |_=>False
 |.block id c,st,Q=>oM T G N M L c st λe st=>match e with|.normal=>Q .normal st|.exit i=>(match bX i id with|true=>Q .normal st|false=>Q (.exit i) st)|.ret=>Q .ret st
 |.exit id,st,Q=>Q (.exit id) st
 |.ret,st,Q=>Q .ret st
 |.scope c,st,Q=>oM T G N M L c st Q
 |c,st,Q=>L c st Q
def Fc(T:iu)(R:Rows)(env:List (Nat×D)):List ResultVar->(List D->Prop)->Prop
 |[],K=>K []
 |.tmp t::l,K=>(look env t).force λd=>cu d.isVal (Fc T R env l λds=>K (d::ds))
 |.cell a t::l,K=>wv T t (look env a) R λd _=>cu d.isVal (Fc T R env l λds=>K (d::ds))
def jY(ex:List Nat)(i r:Nat):Bool:=match ex[i]? with|some x=>bX x r|none=>false
def J4(ex:List Nat)(r:Nat):Bool:=ex.all λx=>!(bX x r)
def H0(ex:List Nat)(R:Rows)(i:Nat):Bool:=match ex[i]? with|some r=>(match R.getD r none with|none=>true|some _=>false)|none=>false
def ai.Eq:ai->ai->Prop
 |.ints k l,.ints k' m=>match decide (k=k')with|true=>l=m|false=>(ai.ints k l).l=(ai.ints k' m).l
 |.ag l,.ag m=>l=m
 |.gen es,.gen fs=>es=fs
 |.gen [],.ints _ m=>m=[]
 |.gen [],.ag m=>m=[]
 |.gen [],.ah _ m=>m=[]
 |.ah k l,.ah k' m=>(match FG k k' l with|some l'=>l'=m|none=>(ai.ah k l).l=(ai.ah k' m).l)
 |E,F=>E.l=F.l
theorem ai.wT{E F:ai}(h:ai.Eq E F):E.l=F.l:=by
 cases E with
 |gen es=>
  cases es with
  |nil=>cases F<;>simp_all [ai.Eq,ai.l]
  |cons e es=>cases F<;>simp_all [ai.Eq,ai.l]
 |ints k l=>
  cases F with
  |ints k' m=>
   simp only[ai.Eq]at h
   split at h
   ·rename_i hk;subst h;rw[oY hk]
   ·exact h
  |_=>exact h
 |ag l=>
  cases F with
  |ag m=>simp only[ai.Eq]at h;rw[h]
  |_=>exact h
 |ah k l=>
  cases F with
  |ah k' m=>
   simp only[ai.Eq]at h
   split at h
   ·rename_i l' hc
    obtain⟨e,hm⟩:=VT hc
    subst e
    simp only at hm
    rw[<-h,<-hm]
   ·exact h
  |_=>exact h
theorem ai.nX{E:ai}:E.Nil↔E.l=[]:=by
 cases E<;>simp[ai.Nil,ai.l]
def r8(ex:List Nat):List (Nat×Nat×Nat)->List (Nat×Nat×Nat)->Bool
 |[],[]=>true
 |(i,b,c)::l,(r,y,z)::m=>jY ex i r&&(bX b y&&(bX c z&&r8 ex l m))
 |_,_=>false
def oO(ex:List Nat):List iy->List iy->Bool
 |[],[]=>true
 |.ptr i b c::l,.ptr r y z::m=>jY ex i r&&(bX b y&&(bX c z&&oO ex l m))
 |.fn f ps::l,.fn g qs::m=>bX f g&&(r8 ex ps qs&&oO ex l m)
 |_,_=>false
def iG(ex:List Nat)(m:Nat)(R:Rows)(d p:D):Prop:=
 match p with
 |.int k n=>match d with|.int j q=>cu (decide (j=k)) (q=n)|_=>False
 |.bool b=>match d with|.bool a=>a=b|_=>False
 |.str s=>match d with|.str u=>u=s|_=>False
 |.iC=>match d with|.iC=>True|_=>False
 |.jC=>match d with|.jC=>True|_=>False
 |.gj f cs=>match d with|.gj g ds=>cu (bX f g&&oO ex cs ds) True|_=>False
 |.ptr i o f=>match d with|.ptr r o' f'=>cu (jY ex i r&&(bX o o'&&bX f f')) True|_=>False
 |.ga i=>match d with|.iC=>True|.ga r=>cu (jY ex i r) True|.ptr r o f=>cu (jY ex i r&&(bX o 0&&bX f 0)) True|_=>False
 |.c9=>match d with|.c9=>True|_=>False
 |.emp=>match d with|.c9=>True|.emp=>True|_=>False
 |.sl sz es fr=>match d with
  |.c9=>es.Nil
  |.emp=>es.Nil
  |.sl jX iQ fr'=>cu (!fr||fr') ((iQ.Nil\/jX=sz)/\ai.Eq iQ es)
  |.all r=>match R.getD r none with
   |some ⟨box,_,jX,iQ⟩=>cu (!box&&bX jX sz&&J4 ex r&&gD m r) (ai.Eq iQ es)
   |none=>False
  |.own r o n=>match R.getD r none with
   |some ⟨box,_,jX,iQ⟩=>cu (!box&&bX jX sz&&J4 ex r&&gD m r) (ai.Eq ((iQ.drop o).take n) es)
   |none=>False
  |_=>False
 |.all i=>match d with|.all r=>cu (jY ex i r) True|.c9=>cu (H0 ex R i) True|.emp=>cu (H0 ex R i) True|_=>False
 |.own i o n=>match d with|.own r o' n'=>cu (jY ex i r) (o'=o/\n'=n)|_=>False
 |.dead=>cu d.G7 True
 |_=>False
def Dj(ex:List Nat)(m:Nat)(R:Rows):List D->List D->Prop
 |[],[]=>True
 |d::ds,p::ps=>iG ex m R d p/\Dj ex m R ds ps
 |_,_=>False
def oP(ex:List Nat)(m:Nat)(R:Rows)(d p:D):Prop:=
 match p with
 |.agg ps=>match d with|.agg ds=>Dj ex m R ds ps|_=>False
 |p=>iG ex m R d p
def uY(ex:List Nat)(m:Nat)(R:Rows):List D->List D->Prop
 |[],[]=>True
 |d::ds,p::ps=>oP ex m R d p/\uY ex m R ds ps
 |_,_=>False
def r6(ex:List Nat)(m:Nat)(R:Rows)(d p:D):Prop:=
 match p with
 |.dv ps=>match d with|.dv ds=>uY ex m R ds ps|_=>False
 |p=>oP ex m R d p
def lG(ex:List Nat)(m:Nat)(R:Rows):List Nat->List Row->Prop
 |[],[]=>True
 |r ::rs,⟨box,ty,sz,es⟩::ps=>(match R.getD r none with
  |some ⟨wV,jN,jX,iQ⟩=>cu (Bool.xor (!box) wV&&bX ty jN&&bX sz jX) (match box with
   |false=>ai.Eq iQ es
   |true=>match iQ,es with|.gen [e'],.gen [e]=>Dj ex m R e' e|_,_=>False)
  |none=>cu (!box&&bN 0 sz) es.Nil)/\lG ex m R rs ps
 |_,_=>False
def newAt(n0:Nat):List (Nat×Nat)->Nat->Nat
 |[],i=>n0+i
 |(j,r)::l,i=>match bX j i with|true=>r|false=>newAt n0 l i
def news(n0:Nat)(l:List (Nat×Nat)):Nat->Nat->List Nat
 |_,0=>[]
 |i,n+1=>newAt n0 l i::news n0 l (i+1) n
def L0:List Nat->List Nat->Bool
 |[],[]=>true
 |x::l,y::m=>bX x y&&L0 l m
 |_,_=>false
def r7(M:Nat)(ex:List Nat):Bool:=(L0 (ex.take M) (cW M)&&(ex.drop M).all λr=>gD M r)&&Cv (ex.drop M)
def wX(m:Nat)(res:D)(rows:List Row)(d:D)(R:Rows):Prop:=
 ∃ex,r7 m ex=true/\r6 ex m R d res/\lG ex m R ex rows
def Fb:List D->Nat->List (Nat×D)
 |[],_=>[]
 |d::ds,i=>(i,d)::Fb ds (i+1)
def j6(T:iu)(G:List bc)(L:Code->St->(Ex->St->Prop)->Prop)(fn:Func)(args:List D)(rows:List Row)(Q:D->Rows->Prop):Prop:=
 match fn.body with
 |some c=>oM T G fn.ntmps rows.length L c ⟨Fb args 0,rows.map some⟩ λe st=>match e with
  |.exit _=>False
  |_=>Fc T st.rows st.env fn.results.toList λds=>match ds with|[d]=>Q d st.rows|ds=>Q (.dv ds) st.rows
 |none=>False
def om:List Nat->List D->List (Nat×D)
 |t::ts,d::ds=>(t,d)::om ts ds
 |_,_=>[]
def Ad:List iy->List Nat
 |[]=>[]
 |.fn f _::l=>f::Ad l
 |_::l=>Ad l
def Ae:D->List Nat|.gj f cs=>f::Ad cs|_=>[]
def ra:List D->List Nat
 |[]=>[]
 |d::l=>Ae d++ra l
def EM:D->List Nat|.agg cs=>ra cs|d=>Ae d
def oh:List D->List Nat
 |[]=>[]
 |d::l=>EM d++oh l
def Cp:D->List Nat|.dv ds=>oh ds|d=>EM d
def kp:List Row->List Nat
 |[]=>[]
 |⟨true,_,_,.gen [e]⟩::l=>ra e++kp l
 |_::l=>kp l
def FR:Rows->List Nat
 |[]=>[]
 |some r::l=>kp [r]++FR l
 |none::l=>FR l
def pS(l:List Nat):Bool:=l.all λf=>bN f YB
def wU:List (Nat×D)->List Nat
 |[]=>[]
 |(_,d)::l=>Cp d++wU l
def Ff (T:iu)(G:List bc)(L:Code->St->(Ex->St->Prop)->Prop)(fn:Func)(args:List D)(rows:List Row)(Q:D->Rows->Prop)(M:Nat):Prop:=
 match fn.body with
 |some c =>match gD YB fn.nfree with
  |true =>match bX fn.nfree YB with
   |true=>oM T G fn.ntmps M L c ⟨om fn.params.toList args,rows.map some⟩ λe st=>match e with
    |.normal=>Q (.bool true) st.rows
    |_=>False
   |false=>match c with
    |.seq a b=>oM T G fn.ntmps M L a ⟨om fn.params.toList args,rows.map some⟩ λe st=>match e with
     |.normal=>cu (pS (wU st.env++FR st.rows)) (oM T G fn.ntmps M L b st λe st=>match e with
      |.normal=>Q (.bool true) st.rows
      |_=>False)
     |_=>False
    |_=>False
  |false=>oM T G fn.ntmps M L c ⟨Fb args 0,rows.map some⟩ λe st=>match e with
  |.exit _=>False
  |_=>Fc T st.rows st.env fn.results.toList λds=>match ds with|[d]=>Q d st.rows|ds=>Q (.dv ds) st.rows
 |none=>False
