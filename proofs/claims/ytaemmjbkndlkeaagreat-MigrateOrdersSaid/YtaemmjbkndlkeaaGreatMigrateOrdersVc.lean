import Derived.Test.YtaemmjbkndlkeaaGreatMigrateOrdersFy
open Nat renaming beq->bX,blt->bN,ble->gD
open BitVec renaming ofInt->dR
open List renaming replicate->cO,range->cW
set_option linter.all false
namespace Go.GD
open Go
variable {b:Bool}{p:Prop}
def cu(b:Bool)(p:Prop):Prop:=match b with|true=>p|false=>False
def Ai(b:Bool)(p q:Prop):Prop:=match b with|true=>p|false=>q
theorem dd:cu b p↔b=true/\p:=by cases b<;>simp[cu]
theorem Y5{p q:Prop}:Ai b p q↔(b=true->p)/\(b=false->q):=by cases b<;>simp[Ai]
abbrev Rows:=List (Option Row)
namespace D
def FA(n:Nat):D->Bool|.sl m _ _=>bX m n|.c7=>true|.emp=>true|_=>false
def toEs:D->ai|.sl _ es _=>es|_=>.gen []
def u7:D->Bool|.agg _=>false|.dw _=>false|.dead=>false|_=>true
def isVal:D->Bool|.dw _=>false|.dead=>false|_=>true
def HH:D->Bool|.agg _=>false|.dw _=>false|_=>true
def plain:D->Bool|.bool _=>true|.int _ _=>true|.str _=>true|.iw=>true|.c7=>true|.emp=>true|.sl _ _ _=>true|_=>false
def cells:D->List D|.agg cs=>cs|d=>[d]
def force:D->(D->Prop)->Prop
 |.bool b,K=>K (.bool b)
 |.int k n,K=>K (.int k n)
 |.str s,K=>K (.str s)
 |.sl a b c,K=>K (.sl a b c)
 |.all a,K=>K (.all a)
 |.own a b c,K=>K (.own a b c)
 |.ptr a b c,K=>K (.ptr a b c)
 |.pa a b c d e f,K=>K (.pa a b c d e f)
 |.im a b c d,K=>K (.im a b c d)
 |.iw,K=>K .iw
 |.c7,K=>K .c7
 |.emp,K=>K .emp
 |.mW es,K=>K (.mW es)
 |.dead,K=>K .dead
 |.gj a b,K=>K (.gj a b)
 |.gk a,K=>K (.gk a)
 |.jI,K=>K .jI
 |.agg a,K=>K (.agg a)
 |.dw a,K=>K (.dw a)
end D
def D.jY:List D->(List D->Prop)->Prop
 |[],K=>K []
 |d::l,K=>d.force λd=>jY l λl=>K (d::l)
def tN:Rows->(Rows->Prop)->Prop
 |[],K=>K []
 |d::l,K=>tN l λl=>K (d::l)
inductive sq where
 |int (k:IntKind)|bool|str|sl (n:Nat)|other
inductive TK where
 |int (k:IntKind)|bool|string
 |slice (e:TypeId) (n:Nat)
 |struct (fs:List (Nat×TypeId×Nat))
 |array (len:Nat) (e:TypeId) (n:Nat)
 |other
structure TI where
 kind:TK
 size:Nat
 bytes:Nat
 sQ:List sq
 zero:Option (List D)
 eq:Bool
abbrev iu:=List (TypeId×TI)
def iu.get:iu->TypeId->Option TI
 |[],_=>none
 |(u,i)::l,t=>match bX u t with|true=>some i|false=>iu.get l t
def TK.isAgg:TK->Bool|.struct _=>true|.array _ _ _=>true|_=>false
def uO(pl:Bool):sq->D->(D->Prop)->Prop
 |.int k,c,K=>cu (c.isInt k) (K (.int k c.toInt))
 |.bool,c,K=>cu c.isBool (K (.bool c.toBool))
 |.str,c,K=>cu c.isStr (K (.str c.toStr))
 |.sl n,c,K=>match pl with
  |true=>cu (c.FA n) (K (.sl n c.toEs false))
  |false=>cu c.u7 (c.force K)
 |.other,c,K=>match pl with
  |true=>match c with|.iw=>K .iw|_=>False
  |false=>cu c.u7 (c.force K)
def Ej(pl:Bool)(e:List D):List sq->Nat->(List D->Prop)->Prop
 |[],_,K=>K []
 |t::ts,off,K=>uO pl t (e.getD off .dead) λd=>Ej pl e ts (off+1) λds=>K (d::ds)
def uP(pl:Bool)(t:TI)(e:List D)(off:Nat)(K:D->Prop):Prop:=
 match t.kind.isAgg with
 |true=>Ej pl e t.sQ off λds=>K (.agg ds)
 |false=>match t.sQ with
  |[y]=>uO pl y (e.getD off .dead) K
  |_=>False
def kX:List D->Nat->List D->List D
 |e,_,[]=>e
 |e,off,v::vs=>kX (e.set off v) (off+1) vs
def Zj:Value->Option D
 |.bool b=>some (.bool b)
 |.int k n=>some (.int k n)
 |.string s=>some (.str s.data.toList)
 |.slice none 0 0=>some .c7
 |.pointer none=>some .iw
 |.nilIface=>some .jI
 |.nilFunc=>some .dead
 |_=>none
def Bp:List Value->Option (List D)
 |[]=>some []
 |v::vs=>match Zj v,Bp vs with|some d,some ds=>some (d::ds)|_,_=>none
def Gq:Value->Option D
 |.agg cs=>(Bp cs.toList).map .agg
 |v=>Zj v
structure St where
 env:List (Nat×D)
 rows:Rows
def look:List (Nat×D)->Nat->D
 |[],_=>.dead
 |(u,d)::l,t=>match bX u t with|true=>d|false=>look l t
def cj(env:List (Nat×D)):Operand->D
 |.tmp t=>look env t
 |.const v=>(Gq v).getD .dead
 |.func f=>match bN f YB with|true=>.gj f []|false=>.dead
 |_=>.dead
def bb(k:IntKind)(x y:Int):Int:=k.wrap (dR k.bits x&&&dR k.bits y).toNat
def iJ(k:IntKind)(x y:Int):Int:=k.wrap (dR k.bits x|||dR k.bits y).toNat
def rG(k:IntKind)(x y:Int):Int:=k.wrap (dR k.bits x^^^dR k.bits y).toNat
def oR(k:IntKind)(x y:Int):Int:=k.wrap (dR k.bits x&&&~~~dR k.bits y).toNat
def ei(k:IntKind)(x y:Int):Int:=k.wrap (x*2^(min y.toNat k.bits))
def bj(k:IntKind)(x y:Int):Int:=x.fdiv (2^(min y.toNat k.bits))
def U0(op:BinOp)(k:IntKind)(x y:Int)(K:D->Prop):Prop:=
 match op with
 |.add=>K (.int k (k.wrap (x+y)))
 |.sub=>K (.int k (k.wrap (x-y)))
 |.mul=>K (.int k (k.wrap (x*y)))
 |.quo=>cu (decide (y≠0)) (K (.int k (k.wrap (x.tdiv y))))
 |.rem=>cu (decide (y≠0)) (K (.int k (x.tmod y)))
 |.and=>K (.int k (bb k x y))
 |.or=>K (.int k (iJ k x y))
 |.xor=>K (.int k (rG k x y))
 |.andNot=>K (.int k (oR k x y))
 |.eql=>K (.bool (x==y))
 |.neq=>K (.bool (x !=y))
 |.lss=>K (.bool (decide (x<y)))
 |.leq=>K (.bool (decide (x<=y)))
 |.gtr=>K (.bool (decide (x>y)))
 |.geq=>K (.bool (decide (x>=y)))
 |_=>False
def PD:D->D->Bool
 |.int _ a,.int _ b=>a==b
 |.bool a,.bool b=>a==b
 |.str a,.str b=>decide (a=b)
 |_,_=>false
def eqs:List D->List D->Bool
 |[],_=>true
 |a::l,b::m=>PD a b&&eqs l m
 |_::_,[]=>false
def fits:List sq->List D->Bool
 |[],[]=>true
 |.int k::t,d::l=>d.isInt k&&fits t l
 |.bool::t,d::l=>d.isBool&&fits t l
 |.str::t,d::l=>d.isStr&&fits t l
 |_,_=>false
def sR(T:iu)(op:BinOp)(t:TypeId)(x y:D)(K:D->Prop):Prop:=
 match x,y with
 |.int k a,.int k' b=>
  match op with
  |.shl=>cu (decide (0<=b)) (K (.int k (ei k a b)))
  |.shr=>cu (decide (0<=b)) (K (.int k (bj k a b)))
  |op=>cu (decide (k=k')) (U0 op k a b K)
 |.str a,.str b=>
  match op with
  |.add=>cu (decide (a.length+b.length<=maxLen)) (K (.str (a++b)))
  |.eql=>K (.bool (decide (a=b)))
  |.neq=>K (.bool (!decide (a=b)))
  |_=>False
 |.bool a,.bool b=>
  match T.get t with
  |some ⟨.bool,_,_,_,_,_⟩=>match op with
   |.eql=>K (.bool (a==b))
   |.neq=>K (.bool (!(a==b)))
   |_=>False
  |_=>False
 |.agg a,.agg b=>
  match T.get t with
  |some ti=>cu (ti.kind.isAgg&&bN 0 ti.size&&ti.eq&&fits ti.sQ a&&fits ti.sQ b)<|
   match op with
   |.eql=>K (.bool (eqs a b))
   |.neq=>K (.bool (!(eqs a b)))
   |_=>False
  |none=>False
 |_,_=>False
def Mq(T:iu)(s d:TypeId)(x:D)(K:D->Prop):Prop:=
 match T.get s,T.get d with
 |some ⟨.int _,_,_,_,_,_⟩,some ⟨.int k,_,_,_,_,_⟩=>match x with
  |.int _ n=>K (.int k (k.wrap n))
  |_=>False
 |some ⟨.string,_,_,_,_,_⟩,some ⟨.string,_,_,_,_,_⟩=>match x with
  |.str s=>K (.str s)
  |_=>False
 |_,_=>False
def QC(T:iu)(s:TypeId)(f:Nat):Option (Nat×TypeId×Nat):=
 match T.get s with
 |some ⟨.struct fs,_,_,_,_,_⟩=>fs[f]?
 |_=>none
def FH(place:Nat->Option (Nat×Nat))(ev:Operand->D):List (Nat×Operand)->List D->(List D->Prop)->Prop
 |[],cs,K=>D.jY cs K
 |(i,x)::ps,cs,K=>match place i with
  |some (off,n)=>cu ((ev x).isVal&&bX (ev x).cells.length n&&gD (off+n) cs.length) (FH place ev ps (kX cs off (ev x).cells) K)
  |none=>False
def D.QJ:D->D|.sl a b _=>.sl a b false|d=>d
def HD:List D->List D
 |[]=>[]
 |d::l=>d.QJ::HD l
def FJ(n len:Nat)(ev:Operand->D):List (Nat×Operand)->List (List D)->(List (List D)->Prop)->Prop
 |[],es,K=>K es
 |(i,x)::ps,es,K=>cu (((ev x).isVal&&(HD (ev x).cells).all D.plain)&&bX (HD (ev x).cells).length n&&bN i len) (FJ n len ev ps (es.set i (HD (ev x).cells)) K)
def wP(row:Row):Rows->Nat->(Nat->Rows->Prop)->Prop
 |[],n,K=>K n [some row]
 |x::l,n,K=>wP row l (n+1) λk l=>K k (x::l)
def uN(R:Rows)(row:Row)(K:Nat->Rows->Prop):Prop:=wP row R 0 K
def ints(e:List D)(off:Nat):Nat->List Int
 |0=>[]
 |n+1=>(e.getD off .dead).toInt::ints e (off+1) n
def ag(e:List D)(off:Nat):Nat->List Bool
 |0=>[]
 |n+1=>(e.getD off .dead).toBool::ag e (off+1) n
def CS(k:IntKind)(e:List D)(off:Nat):Nat->Bool
 |0=>true
 |n+1=>(e.getD off .dead).isInt k&&CS k e (off+1) n
def Hu(e:List D)(off:Nat):Nat->Bool
 |0=>true
 |n+1=>(e.getD off .dead).isBool&&Hu e (off+1) n
def HA(k:IntKind)(l:List Int)(j:Nat):Nat->List D
 |0=>[]
 |n+1=>.int k (l.getD j 0)::HA k l (j+1) n
def HB(l:List Bool)(j:Nat):Nat->List D
 |0=>[]
 |n+1=>.bool (l.getD j false)::HB l (j+1) n
def wR(T:iu)(t:TypeId)(x:D)(R:Rows)(K:D->Rows->Prop):Prop:=
 match T.get t with
 |none=>False
 |some ti=>match x with
  |.ptr r i off=>match R.getD r none with
   |some ⟨box,_,sz,es⟩=>cu (gD (off+ti.size) sz) (uP (!box) ti (es.get i) off λd=>K d R)
   |none=>False
  |.pa r i off len k n=>match R.getD r none with
   |some ⟨_,_,sz,es⟩=>cu (gD (off+len) sz)<|match ti.kind,k with
    |.int j,some k=>cu (decide (j=k)&&CS k (es.get i) off len) (K (.int k ((ints (es.get i) off len).getD n 0)) R)
    |.bool,none=>cu (Hu (es.get i) off len) (K (.bool ((ag (es.get i) off len).getD n false)) R)
    |_,_=>False
   |none=>False
  |.im sz es i off=>cu (gD (off+ti.size) sz) (uP true ti (es.get i) off λd=>K d R)
  |_=>False
def HC(T:iu)(t:TypeId)(x d:D)(R:Rows)(K:D->Rows->Prop):Prop:=
 match T.get t with
 |none=>False
 |some ti=>match x with
  |.ptr r i off=>match R.getD r none with
   |some ⟨box,ty,sz,es⟩=>cu (bN 0 ti.size&&d.isVal&&bX d.cells.length ti.size&&gD (off+ti.size) sz)<|match box with
    |true=>D.jY (kX (es.get i) off d.cells) λe=>tN (R.set r (some ⟨true,ty,sz,.gen [e]⟩)) λR=>K .dead R
    |false=>cu (d.cells.all D.plain) (tN (R.set r (some ⟨false,ty,sz,es.set i (kX (es.get i) off d.cells)⟩)) λR=>K .dead R)
   |none=>False
  |.pa r i off len k n=>match R.getD r none with
   |some ⟨box,ty,sz,es⟩=>cu (box&&gD (off+len) sz)<|match ti.kind,k,d with
    |.int j,some k,.int k' v=>cu (decide (j=k)&&decide (k'=k)&&CS k (es.get i) off len)<|
     D.jY (kX (es.get i) off (HA k ((ints (es.get i) off len).set n v) 0 len)) λe=>tN (R.set r (some ⟨true,ty,sz,.gen [e]⟩)) λR=>K .dead R
    |.bool,none,.bool v=>cu (Hu (es.get i) off len)<|
     D.jY (kX (es.get i) off (HB ((ag (es.get i) off len).set n v) 0 len)) λe=>tN (R.set r (some ⟨true,ty,sz,.gen [e]⟩)) λR=>K .dead R
    |_,_,_=>False
   |none=>False
  |_=>False
def U2(T:iu)(t:TypeId)(x:D)(U1:Bool)(n:Int)(R:Rows)(K:D->Rows->Prop):Prop:=
 match T.get t with
 |some ⟨.slice _ iF,_,_,_,_,_⟩=>match x with
  |.sl sz es _=>cu (bX sz iF&&bN 0 iF&&decide (0<=n/\n<es.len)) (K (.im sz es n.toNat 0) R)
  |.own r o m=>match R.getD r none with
   |some ⟨_,_,sz,_⟩=>cu (bX sz iF&&bN 0 iF&&decide (0<=n/\n<m)) (K (.ptr r (o+n.toNat) 0) R)
   |none=>False
  |.all r=>match R.getD r none with
   |some ⟨_,_,sz,es⟩=>cu (bX sz iF&&bN 0 iF&&decide (0<=n/\n<es.len)) (K (.ptr r n.toNat 0) R)
   |none=>False
  |_=>False
 |some ⟨.array len e iF,_,_,_,_,_⟩=>cu (bN 0 iF&&decide (0<=n/\n<len))<|match x with
  |.ptr r i off=>match U1 with
   |true=>K (.ptr r i (off+n.toNat*iF)) R
   |false=>match T.get e with
    |some ⟨.int k,_,_,_,_,_⟩=>cu (bX iF 1) (K (.pa r i off len (some k) n.toNat) R)
    |some ⟨.bool,_,_,_,_,_⟩=>cu (bX iF 1) (K (.pa r i off len none n.toNat) R)
    |_=>K (.ptr r i (off+n.toNat*iF)) R
  |.im sz es i off=>K (.im sz es i (off+n.toNat*iF)) R
  |_=>False
 |_=>False
def rU(x:Option Operand)(ev:Operand->D)(n:Int):Option Int:=match x with|none=>some n|some y=>match ev y with|.int _ m=>some m|_=>none
def Mr(T:iu)(t:TypeId)(x:D)(lo hi:Option Operand)(ev:Operand->D)(R:Rows)(K:D->Rows->Prop):Prop:=
 match T.get t with
 |some ⟨.string,_,_,_,_,_⟩=>match x with
  |.str s=>match rU lo ev 0,rU hi ev s.length with
   |some l,some h=>cu (decide (0<=l/\l<=h/\h<=s.length)) (K (.str ((s.drop l.toNat).take (h.toNat-l.toNat))) R)
   |_,_=>False
  |_=>False
 |some ⟨.slice _ iF,_,_,_,_,_⟩=>match x with
  |.sl sz es fr=>match rU lo ev 0,rU hi ev es.len with
   |some l,some h=>cu (bX sz iF&&bN 0 iF&&decide (0<=l/\l<=h/\h<=es.len)) (K (.sl sz ((es.drop l.toNat).take (h.toNat-l.toNat)) fr) R)
   |_,_=>False
  |.all r=>match R.getD r none with
   |some ⟨_,_,sz,es⟩=>match rU lo ev 0,rU hi ev es.len with
    |some l,some h=>cu (bX sz iF&&bN 0 iF&&decide (0<=l/\l<=h/\h<=es.len)) (K (.own r l.toNat (h.toNat-l.toNat)) R)
    |_,_=>False
   |none=>False
  |.own r o n=>match R.getD r none with
   |some ⟨_,_,sz,_⟩=>match rU lo ev 0,rU hi ev n with
    |some l,some h=>cu (bX sz iF&&bN 0 iF&&decide (0<=l/\l<=h/\h<=n)) (K (.own r (o+l.toNat) (h.toNat-l.toNat)) R)
    |_,_=>False
   |none=>False
  |_=>False
 |some ⟨.array len e iF,_,_,_,_,_⟩=>match x,lo,hi with
  |.im sz es i off,none,none=>match T.get e with
   |some ⟨.int k,_,_,_,_,_⟩=>cu (bX iF 1&&(gD (off+len) sz&&CS k (es.get i) off len)) (K (.sl 1 (.ints k (ints (es.get i) off len)) false) R)
   |_=>False
  |_,_,_=>False
 |_=>False
def uS(T:iu)(t:TypeId)(n m:Int)(R:Rows)(K:D->Rows->Prop):Prop:=
 match T.get t with
 |some ⟨.slice e _,_,_,_,_,_⟩=>match T.get e with
  |some ⟨_,sz,lL,_,some z,_⟩=>cu (bN 0 sz&&bX z.length sz&&z.all D.plain&&decide (0<=n/\n<=m/\m<=9223372036854775807/\(lL:Int)*m<=140737488355328))
   (uN R ⟨false,e,sz,ai.FI e n.toNat z⟩ λk R=>K (.all k) R)
  |_=>False
 |_=>False
def sW(T:iu)(t:TypeId)(x:D)(R:Rows)(K:D->Rows->Prop):Prop:=
 match T.get t with
 |some ⟨.string,_,_,_,_,_⟩=>match x with
  |.str s=>K (.int .i64 s.length) R
  |_=>False
 |some ⟨.slice _ _,_,_,_,_,_⟩=>match x with
  |.sl _ es _=>K (.int .i64 es.len) R
  |.own _ _ n=>K (.int .i64 n) R
  |.all r=>match R.getD r none with
   |some ⟨_,_,_,es⟩=>K (.int .i64 es.len) R
   |none=>False
  |.c7=>K (.int .i64 0) R
  |.emp=>K (.int .i64 0) R
  |_=>False
 |_=>False
def Ms(T:iu)(t:TypeId)(parts:List (Nat×Operand))(ev:Operand->D)(R:Rows)(K:D->Rows->Prop):Prop:=
 match T.get t with
 |some ⟨.struct fs,_,_,_,some ds,_⟩=>cu (fs.all λf=>bN 0 f.2.2)<|FH (λi=>(fs[i]?).map λf=>(f.1,f.2.2)) ev parts ds λcs=>K (.agg cs) R
 |some ⟨.array _ _ iF,_,_,_,some ds,_⟩=>cu (bN 0 iF)<|FH (λi=>some (i*iF,iF)) ev parts ds λcs=>K (.agg cs) R
 |_=>False
def Mt(T:iu)(t:TypeId)(len:Nat)(parts:List (Nat×Operand))(ev:Operand->D)(R:Rows)(K:D->Rows->Prop):Prop:=
 match T.get t with
 |some ⟨.slice e _,_,_,_,_,_⟩=>match T.get e with
  |some ⟨_,sz,_,_,some z,_⟩=>cu (bN 0 sz&&bX z.length sz&&gD (len*sz) 16777216&&z.all D.plain)<|
   FJ sz len ev parts (cO len z) λes=>match len with|0=>K .emp R|_+1=>K (.sl sz (ai.QL e es) true) R
  |_=>False
 |_=>False
def US(t:TypeId)(len:Nat):Bool:=gD 2 len&&FT.any λq=>bX q t
def ZN(T:iu)(t:TypeId)(len:Nat)(parts:List (Nat×Operand))(ev:Operand->D)(R:Rows)(K:D->Rows->Prop):Prop:=
 match T.get t with
 |some ⟨.slice e _,_,_,_,_,_⟩=>match T.get e with
  |some ⟨_,sz,_,_,some z,_⟩=>cu (bN 0 sz&&bX z.length sz&&gD (len*sz) 16777216&&z.all D.plain)<|
   FJ sz len ev parts (cO len z) λes=>uN R ⟨false,e,sz,ai.QL e es⟩ λk R=>K (.all k) R
  |_=>False
 |_=>False
def HO(T:iu)(t:TypeId)(len:Nat)(parts:List (Nat×Operand))(ev:Operand->D)(R:Rows)(K:D->Rows->Prop):Prop:=
 Ai (US t len) (ZN T t len parts ev R K) (Mt T t len parts ev R K)
def Hv:iB->Option (Nat×Nat×Nat)|.ptr r i off=>some (r,i,off)|_=>none
def P4:List iB->Option (List (Nat×Nat×Nat))
 |[]=>some []
 |x::l=>match Hv x,P4 l with|some p,some ps=>some (p::ps)|_,_=>none
def CV:D->Option iB
 |.ptr r i off=>some (.ptr r i off)
 |.int k n=>some (.int k n)
 |.all r=>some (.arr r)
 |.sl a b fr=>some (.sl a b fr)
 |.gj f cs=>match P4 cs with|some ps=>some (.fn f ps)|none=>none
 |_=>none
def Ky:List D->Option (List iB)
 |[]=>some []
 |d::l=>match CV d,Ky l with|some x,some xs=>some (x::xs)|_,_=>none
def gp(T:iu)(o:Op)(ev:Operand->D)(R:Rows)(K:D->Rows->Prop):Prop:=
 match o with
 |.move x|.assign x=>(ev x).force λd=>K d R
 |.alloc t=>match T.get t with
  |some ⟨_,sz,_,_,some ds,_⟩=>cu (bN 0 sz&&bX ds.length sz) (uN R ⟨true,t,sz,.gen [ds]⟩ λk R=>K (.ptr k 0 0) R)
  |_=>False
 |.box t x=>match T.get t with
  |some ⟨_,sz,_,_,_,_⟩=>cu (bN 0 sz&&(ev x).isVal&&bX (ev x).cells.length sz) (D.jY (ev x).cells λcs=>uN R ⟨true,t,sz,.gen [cs]⟩ λk R=>K (.ptr k 0 0) R)
  |none=>False
 |.build t parts=>Ms T t parts.toList ev R K
 |.buildSlice t len parts=>HO T t len parts.toList ev R K
 |.load t a=>wR T t (ev a) R K
 |.store t a x=>HC T t (ev a) (ev x) R K
 |.nilCheck x=>match ev x with
  |.ptr a b c=>K (.ptr a b c) R
  |.im a b c d=>K (.im a b c d) R
  |_=>False
 |.binOp op t x y _=>sR T op t (ev x) (ev y) λd=>K d R
 |.unOp op _ x=>match op,ev x with
  |.neg,.int k n=>K (.int k (k.wrap (0-n))) R
  |.xor,.int k n=>K (.int k (rG k (if k.signed then-1 else k.max) n)) R
  |.not,.bool b=>K (.bool (!b)) R
  |_,_=>False
 |.convert s d x=>Mq T s d (ev x) λv=>K v R
 |.fieldAddr s x f=>match QC T s f with
  |some (o,_,n)=>cu (bN 0 n)<|match ev x with
   |.ptr r i off=>K (.ptr r i (off+o)) R
   |.im sz es i off=>K (.im sz es i (off+o)) R
   |_=>False
  |none=>False
 |.field s x f=>match QC T s f with
  |some (o,t,n)=>match ev x,T.get t with
   |.agg cs,some ti=>cu (bN 0 n&&gD (o+n) cs.length)<|match ti.kind.isAgg with
    |true=>D.jY ((cs.drop o).take n) λl=>K (.agg l) R
    |false=>cu (cs.getD o .dead).u7 ((cs.getD o .dead).force λd=>K d R)
   |_,_=>False
  |none=>False
 |.indexAddr t x ix=>match ev ix with
  |.int _ n=>U2 T t (ev x) (match ix with|.const _=>true|_=>false) n R K
  |_=>False
 |.index t x ix=>match T.get t,ev x,ev ix with
  |some ⟨.string,_,_,_,_,_⟩,.str s,.int _ n=>cu (decide (0<=n/\n<s.length)) (K (.int .u8 ((s.getD n.toNat 0).toNat:Int)) R)
  |some ⟨.array len e iF,_,_,_,_,_⟩,.agg cs,.int _ n=>cu (bX iF 1&&(bX cs.length len&&decide (0<=n/\n<len)))<|match T.get e with
   |some ⟨.int k,_,_,_,_,_⟩=>cu (CS k cs 0 len) (K (.int k ((ints cs 0 len).getD n.toNat 0)) R)
   |some ⟨.bool,_,_,_,_,_⟩=>cu (Hu cs 0 len) (K (.bool ((ag cs 0 len).getD n.toNat false)) R)
   |_=>False
  |_,_,_=>False
 |.extract x i=>match ev x with
  |.dw ds=>cu (ds.getD i .dead).isVal ((ds.getD i .dead).force λd=>K d R)
  |_=>False
 |.slice t x lo hi none=>Mr T t (ev x) lo hi ev R K
 |.makeSlice t l c=>match ev l,ev c with
  |.int _ n,.int _ m=>uS T t n m R K
  |_,_=>False
 |.call {callee:=.builtin .len,args,argTypes}=>match args.toList,argTypes.toList with
  |[x],[t]=>sW T t (ev x) R K
  |_,_=>False
 |.makeFunc fn first captured=>match fn with
  |.func f=>cu (bX first.size 0&&bN f YB)<|match Ky (captured.toList.map ev)with
   |some cs=>K (.gj f cs) R
   |none=>False
  |_=>False
 |_=>False
def pos(r:Nat):List Nat->Nat->Nat
 |[],k=>k
 |x::l,k=>match bX x r with|true=>k|false=>pos r l (k+1)
def da(r:Nat):List Nat->Bool
 |[]=>false
 |x::l=>match bX x r with|true=>true|false=>da r l
def pA:List Nat->List Nat->Bool
 |[],_=>true
 |x::l,m=>match da x m with|true=>pA l m|false=>false
def px:List Nat->List Nat->Bool
 |[],_=>true
 |x::l,m=>match da x m with|true=>false|false=>px l m
def lG:List Nat->List Nat->List Nat
 |ids,[]=>ids
 |ids,x::l=>match da x ids with|true=>lG ids l|false=>lG (ids++[x]) l
def CX:List Nat->Bool
 |[]=>true
 |x::l=>match da x l with|true=>false|false=>CX l
def CP:iB->List Nat|.ptr r _ _=>[r]|.arr r=>[r]|.fn _ ps=>ps.map (·.1)|_=>[]
def ry:List iB->List Nat
 |[]=>[]
 |x::l=>CP x++ry l
def iB.je(f:Nat->Nat)(dv:Bool):iB->iB
 |.ptr r i off=>.ptr (f r) i off
 |.int k n=>.int k n
 |.arr r=>.arr (f r)
 |.sl a b fr=>.sl a b (fr&&dv)
 |.fn g ps=>.fn g (ps.map λp=>(f p.1,p.2))
def nO:D->List Nat|.gj _ cs=>ry cs|.gk r=>[r]|.all r=>[r]|.own r _ _=>[r]|.ptr r _ _=>[r]|.pa r _ _ _ _ _=>[r]|_=>[]
def pT:List D->List Nat
 |[]=>[]
 |d::l=>nO d++pT l
def Fy:D->List Nat|.agg cs=>pT cs|d=>nO d
def D.ez(ks:List Nat):D->D
 |.all r=>match da r ks with|true=>.dead|false=>.all r
 |.own r o n=>match da r ks with|true=>.dead|false=>.own r o n
 |.ptr r i off=>match da r ks with|true=>.dead|false=>.ptr r i off
 |.pa r i off l k n=>match da r ks with|true=>.dead|false=>.pa r i off l k n
 |.gk r=>match da r ks with|true=>.dead|false=>.gk r
 |.gj f cs=>match px (ry cs) ks with|true=>.gj f cs|false=>.dead
 |d=>d
def D.ji(ks:List Nat):List D->List D
 |[]=>[]
 |d::l=>d.ez ks::ji ks l
def D.kill(ks:List Nat):D->D
 |.agg cs=>.agg (D.ji ks cs)
 |d=>d.ez ks
def D.pM(ks:List Nat):List D->List D
 |[]=>[]
 |d::l=>d.kill ks::pM ks l
def D.jW(ks:List Nat):D->D
 |.dw ds=>.dw (D.pM ks ds)
 |d=>d.kill ks
def Row.kill(ks:List Nat):Row->Row
 |⟨true,ty,sz,.gen [e]⟩=>⟨true,ty,sz,.gen [D.ji ks e]⟩
 |r=>r
def rS(ks:List Nat):Rows->Nat->Rows
 |[],_=>[]
 |x::l,i=>(match da i ks with|true=>none|false=>match x with|some row=>some (row.kill ks)|none=>none)::rS ks l (i+1)
def GA(ks:List Nat):List (Nat×D)->(List (Nat×D)->Prop)->Prop
 |[],K=>K []
 |(t,d)::l,K=>(d.jW ks).force λd=>GA ks l λl=>K ((t,d)::l)
def pf(s:List UInt8):List Int:=s.map λb=>(b.toNat:Int)
def bytesOf(l:List Int):List UInt8:=l.map λn=>UInt8.ofNat n.toNat
def sr(R:Rows):D->Option (Nat×ai)
 |.c7=>some (0,.gen [])
 |.emp=>some (0,.gen [])
 |.sl sz es _=>some (sz,es)
 |.all r=>match R.getD r none with|some ⟨false,_,sz,es⟩=>some (sz,es)|_=>none
 |.own r o n=>match R.getD r none with|some ⟨false,_,sz,es⟩=>some (sz,(es.drop o).take n)|_=>none
 |_=>none
def CG(R:Rows)(ke kx:TK)(y:D):Option (Nat×ai):=
 match kx with
 |.slice _ _=>sr R y
 |.string=>match ke,y with
  |.int .u8,.str s=>some (1,.ints .u8 (pf s))
  |_,_=>none
 |_=>none
def IA:ai->Bool|.gen []=>true|_=>false
def CJ(e sz lL:Nat)(R:Rows)(ks:List Nat)(es ys:ai)(K:List Nat->D->Rows->Prop):Prop:=
 cu (decide (lL*(es.len+ys.len)<=140737488355328))<|tN (rS ks R 0++[some ⟨false,e,sz,es.app ys⟩]) λR'=>K ks (.all R.length) R'
def Mc (T:iu)(M:Nat)(t tx:TypeId)(x y:D)(R:Rows)(K:List Nat->D->Rows->Prop):Prop:=
 match T.get t with
 |some ⟨.slice e iF,_,_,_,_,_⟩=>match T.get e,T.get tx with
  |some ⟨ke,sz,lL,_,some z,_⟩,some ⟨kx,_,_,_,_,_⟩=>match CG R ke kx y with
   |some (sy,ys)=>cu ((bN 0 sz&&bX iF sz)&&(bX z.length sz&&z.all D.plain)&&(bN 0 lL&&(bX sy sz||IA ys)))<|
    match x with
    |.c7=>CJ e sz lL R [] (.gen []) ys K
    |.emp=>CJ e sz lL R [] (.gen []) ys K
    |.all r=>match R.getD r none with
     |some ⟨false,ty,s,es⟩=>cu ((bX s sz&&bX ty e)&&gD M r) (CJ e sz lL R [r] es ys K)
     |_=>False
    |.own r o n=>match R.getD r none with
     |some ⟨false,ty,s,es⟩=>cu ((bX s sz&&bX ty e)&&(gD M r&&bX o 0)) (CJ e sz lL R [r] (es.take n) ys K)
     |_=>False
    |_=>False
   |none=>False
  |_,_=>False
 |_=>False
def tY(T:iu)(t tx:TypeId)(x y:D)(R:Rows)(K:D->Rows->Prop):Prop:=
 match T.get t with
 |some ⟨.slice e iF,_,_,_,_,_⟩=>match T.get e,T.get tx with
  |some ⟨ke,sz,_,_,_,_⟩,some ⟨kx,_,_,_,_,_⟩=>match CG R ke kx y with
   |some (sy,ys)=>cu ((bN 0 sz&&bX iF sz)&&(bX sy sz||IA ys))<|
    match x with
    |.all r=>match R.getD r none with
     |some ⟨false,ty,s,es⟩=>cu (bX s sz)<|tN (R.set r (some ⟨false,ty,s,(ys.take (min ys.len es.len)).app (es.drop (min ys.len es.len))⟩)) λR'=>K (.int .i64 (min ys.len es.len:Nat)) R'
     |_=>False
    |.own r o n=>match R.getD r none with
     |some ⟨false,ty,s,es⟩=>cu (bX s sz)<|tN (R.set r (some ⟨false,ty,s,((es.take o).app (ys.take (min ys.len n))).app (es.drop (o+min ys.len n))⟩)) λR'=>K (.int .i64 (min ys.len n:Nat)) R'
     |_=>False
    |_=>False
   |none=>False
  |_,_=>False
 |_=>False
inductive Ans where
 |no
 |ok (res:D) (rows:List Row)
 |when (p:Prop) (res:D) (rows:List Row)
 |abs (α:Type) (v:α) (res:α->D) (rows:α->List Row)
 |lH (p:Prop) (α:Type) (v:α) (res:α->D) (rows:α->List Row)
structure ba where
 f:FuncId
 refs:List Bool
 flat:Bool
 m:List D->List Row->Ans
 gone:Option Nat
 o7:Bool
def oO:List ba->FuncId->Option ba
 |[],_=>none
 |x::l,f=>match bX x.f f with|true=>some x|false=>oO l f
def Fx(R:Rows):D->Option D
 |.bool b=>some (.bool b)
 |.int k n=>some (.int k n)
 |.str s=>some (.str s)
 |.iw=>some .iw
 |.jI=>some .jI
 |.c7=>some (.sl 0 (.gen []) false)
 |.emp=>some (.sl 0 (.gen []) false)
 |.sl a b _=>some (.sl a b false)
 |.all r=>match R.getD r none with|some row=>(match row.box with|false=>some (.sl row.sz row.es false)|true=>none)|none=>none
 |.own r o n=>match R.getD r none with|some row=>(match row.box with|false=>some (.sl row.sz ((row.es.drop o).take n) false)|true=>none)|none=>none
 |_=>none
def Jx(R:Rows):List D->Option (List D)
 |[]=>some []
 |d::ds=>match Fx R d,Jx R ds with|some x,some xs=>some (x::xs)|_,_=>none
def conv(R:Rows):D->Option D
 |.agg cs=>(Jx R cs).map .agg
 |d=>Fx R d
def D.mF(f:Nat->Nat)(dv:Bool):D->D
 |.all r=>.all (f r)
 |.own r o n=>.own (f r) o n
 |.ptr r i off=>.ptr (f r) i off
 |.pa r i off l k n=>.pa (f r) i off l k n
 |.sl a b fr=>.sl a b (fr&&dv)
 |.gj g cs=>.gj g (cs.map (iB.je f dv))
 |.gk r=>.gk (f r)
 |d=>d
def D.mG(f:Nat->Nat)(dv:Bool):List D->List D
 |[]=>[]
 |d::l=>d.mF f dv::mG f dv l
def D.je(f:Nat->Nat)(dv:Bool):D->D
 |.agg cs=>.agg (D.mG f dv cs)
 |d=>d.mF f dv
def D.AG(f:Nat->Nat)(dv:Bool):List D->List D
 |[]=>[]
 |d::l=>d.je f dv::AG f dv l
def D.sT(f:Nat->Nat)(dv:Bool):D->D
 |.dw ds=>.dw (D.AG f dv ds)
 |d=>d.je f dv
def Row.je(f:Nat->Nat)(dv:Bool):Row->Row
 |⟨true,ty,sz,.gen [e]⟩=>⟨true,ty,sz,.gen [D.mG f dv e]⟩
 |r=>r
def CO(R:Rows):List Nat->List Nat
 |[]=>[]
 |r::l=>(match R.getD r none with|some ⟨true,_,_,.gen [e]⟩=>pT e|_=>[])++CO R l
def CY:List Bool->List D->List Nat
 |true::bs,d::ds=>Fy d++CY bs ds
 |false::bs,_::ds=>CY bs ds
 |_,_=>[]
def lQ:List Bool->List D->List Nat
 |true::bs,_::ds=>lQ bs ds
 |false::bs,d::ds=>Fy d++lQ bs ds
 |[],d::ds=>Fy d++lQ [] ds
 |_,[]=>[]
def mC(R:Rows)(bs:List Bool)(args:List D):List Nat:=
 let a:=lG [] (CY bs args)
 let b:=lG a (CO R a)
 lG b (CO R b)
def Bm(R:Rows)(f:Nat->Nat):List Nat->Option (List Row)
 |[]=>some []
 |r::l=>match R.getD r none,Bm R f l with
  |some row,some rs=>some (row.je f false::rs)
  |_,_=>none
def sP(R:Rows)(f:Nat->Nat):List Bool->List D->Option (List D)
 |true::bs,d::ds=>match d.isVal,sP R f bs ds with|true,some xs=>some (d.je f false::xs)|_,_=>none
 |false::bs,d::ds=>match conv R d,sP R f bs ds with|some x,some xs=>some (x::xs)|_,_=>none
 |[],d::ds=>match conv R d,sP R f [] ds with|some x,some xs=>some (x::xs)|_,_=>none
 |_,[]=>some []
def bk(ids:List Nat)(n0 i:Nat):Nat:=match ids[i]? with|some r=>r|none=>n0+(i-ids.length)
def tO(f:Nat->Nat):List Nat->List Row->Rows->Rows
 |r::ids,row::rows,R=>tO f ids rows (R.set r (some (row.je f true)))
 |_,_,R=>R
def Bq(f:Nat->Nat)(rows:List Row):Rows:=rows.map λrow=>some (row.je f true)
inductive Ex where
 |normal|exit (id:Nat)|ret
def St.put(N:Nat)(st:St)(dst:Option Tmp)(d:D)(R:Rows)(K:St->Prop):Prop:=
 match dst with
 |none=>K ⟨st.env,R⟩
 |some t=>cu (bN t N) (K ⟨(t,d)::st.env,R⟩)
def St.jT(st:St)(c:Operand)(b:Bool):St:=
 match c with
 |.tmp t=>⟨(t,.bool b)::st.env,st.rows⟩
 |_=>st
def El(R:Rows)(ids:List Nat)(res:D)(aj:List Row)(K:D->Rows->Prop):Prop:=
 cu (gD ids.length aj.length)<|(res.sT (bk ids R.length) true).force λres=>
  tN (tO (bk ids R.length) ids aj R++Bq (bk ids R.length) (aj.drop ids.length)) λR=>K res R
def sU(G:List ba)(f:FuncId)(args:List D)(R:Rows)(K:D->Rows->Prop):Prop:=
 match oO G f with
 |some x=>
  match sP R (λr=>pos r (mC R x.refs args) 0) x.refs args,Bm R (λr=>pos r (mC R x.refs args) 0) (mC R x.refs args)with
  |some az,some rows=>
   cu ((x.flat&&(match mC R x.refs args with|[]=>true|_=>false)||(match lQ x.refs args with|[]=>true|_=>false))&&
    (pA (CY x.refs args) (mC R x.refs args)&&pA (CO R (mC R x.refs args)) (mC R x.refs args))&&
    (CX (mC R x.refs args)&&px (lQ x.refs args) (mC R x.refs args)))<|
   match x.m az rows with
   |.ok res aj=>El R (mC R x.refs args) res aj K
   |.when p res aj=>p/\El R (mC R x.refs args) res aj K
   |.abs _ v res aj=>∀X,X=v->El R (mC R x.refs args) (res X) (aj X) K
   |.lH p _ v res aj=>p/\∀X,X=v->El R (mC R x.refs args) (res X) (aj X) K
   |.no=>False
  |_,_=>False
 |none=>False
def o6(G:List ba)(f:FuncId):Option Nat:=match oO G f with|some x=>x.gone|none=>none
def Fv(f:Nat->Nat):List Nat->List Row->Rows->Rows
 |r::ids,row::rows,R=>Fv f ids rows (R.set r (some (row.je f false)))
 |_,_,R=>R
def PS(f:Nat->Nat)(rows:List Row):Rows:=rows.map λrow=>some (row.je f false)
def Hp(R:Rows)(MF gid:List Nat)(res:D)(aj:List Row)(K:List Nat->D->Rows->Prop):Prop:=
 cu (gD MF.length aj.length)<|(res.sT (bk MF R.length) false).force λres=>
  tN (Fv (bk MF R.length) MF aj (rS gid R 0)++PS (bk MF R.length) (aj.drop MF.length)) λR=>K gid res R
def Ig(G:List ba)(M:Nat)(f:FuncId)(k:Nat)(args:List D)(R:Rows)(K:List Nat->D->Rows->Prop):Prop:=
 match oO G f with
 |some x=>
  match sP R (λr=>pos r (mC R x.refs args) 0) x.refs args,Bm R (λr=>pos r (mC R x.refs args) 0) (mC R x.refs args)with
  |some az,some rows=>
   cu (((match lQ x.refs args with|[]=>true|_=>false)&&(match x.refs with|[]=>false|_=>true))&&
    (pA (CY x.refs args) (mC R x.refs args)&&pA (CO R (mC R x.refs args)) (mC R x.refs args))&&
    (CX (mC R x.refs args)&&((mC R x.refs args).drop k).all λr=>gD M r))<|
   match x.m az rows with
   |.abs _ v res aj=>∀X,X=v->Hp R ((mC R x.refs args).take k) ((mC R x.refs args).drop k) (res X) (aj X) K
   |.lH p _ v res aj=>p/\∀X,X=v->Hp R ((mC R x.refs args).take k) ((mC R x.refs args).drop k) (res X) (aj X) K
   |_=>False
  |_,_=>False
 |none=>False
def BP(G:List ba)(f:FuncId):Bool:=match oO G f with|some x=>x.o7|none=>false
def CN(G:List ba)(M:Nat)(f:FuncId)(args:List D)(R:Rows)(K:List Nat->D->Rows->Prop):Prop:=
 match oO G f with
 |some x=>
  match sP R (λr=>r) [] args,Bm R (λr=>pos r (lG [] (lQ [] args)) 0) (lG [] (lQ [] args))with
  |some az,some rows=>
   cu (((match x.refs with|[]=>true|_=>false)&&rows.all λr=>!r.box)&&(CX (lG [] (lQ [] args))&&(pA (lQ [] args) (lG [] (lQ [] args))&&(lG [] (lQ [] args)).all λr=>gD M r)))<|
   match x.m az []with
   |.abs _ v res aj=>∀X,X=v->Hp R [] (lG [] (lQ [] args)) (res X) (aj X) K
   |.lH p _ v res aj=>p/\∀X,X=v->Hp R [] (lG [] (lQ [] args)) (res X) (aj X) K
   |_=>False
  |_,_=>False
 |none=>False
def QB:D->Bool|.gj _ _=>false|.gk _=>false|.all _=>false|.own _ _ _=>false|.ptr _ _ _=>false|.pa _ _ _ _ _ _=>false|_=>true
def UY:List D->Bool
 |[]=>true
 |d::l=>match QB d with|true=>UY l|false=>false
def sV:D->Bool|.agg cs=>UY cs|d=>QB d
def UZ:List D->Bool
 |[]=>true
 |d::l=>match sV d with|true=>UZ l|false=>false
def uR:D->Bool|.dw ds=>UZ ds|d=>sV d
def Mp(R:Rows)(res:D)(aj:List Row)(K:D->Rows->Prop):Prop:=
 match aj with
 |[]=>cu (uR res) (res.force λres=>K res R)
 |_=>(res.sT (bk [] R.length) true).force λres=>tN (R++Bq (bk [] R.length) aj) λR=>K res R
def Da:List Nat->Bool|[]=>true|_=>false
def Kt(G:List ba)(f:FuncId)(args:List D)(R:Rows)(K:D->Rows->Prop):Prop:=
 match oO G f with
 |some x=>match x.refs with
  |[]=>match sP R (λr=>r) [] args with
   |some az=>cu (x.flat||Da (lQ [] args))<|match x.m az []with
    |.ok res aj=>Mp R res aj K
    |.when p res aj=>p/\Mp R res aj K
    |.abs _ v res aj=>∀X,X=v->Mp R (res X) (aj X) K
    |.lH p _ v res aj=>p/\∀X,X=v->Mp R (res X) (aj X) K
    |.no=>False
   |none=>False
  |_=>sU G f args R K
 |none=>False
def wo(T:iu)(e d:TypeId)(x:D)(R:Rows)(K:D->Prop):Prop:=
 match T.get e,T.get d with
 |some ⟨.int .u8,_,_,_,_,_⟩,some ⟨.string,_,_,_,_,_⟩=>match sr R x with
  |some (s,es)=>match es.toI .u8 with
   |some l=>cu (bX s 1||IA es) (K (.str (bytesOf l)))
   |none=>False
  |none=>False
 |_,_=>False
def ai.Nil:ai->Prop
 |.gen es=>es=[]
 |.ints _ l=>l=[]
 |.ag l=>l=[]
 |.ah _ l=>l=[]
def Kq(T:iu)(t:TypeId)(es:ai)(K:D->Prop):Prop:=
 match T.get t with
 |some ⟨.slice _ _,_,_,_,_,_⟩=>K (.mW es)
 |_=>False
def wm(mx:Bool)(x y:D)(K:D->Prop):Prop:=
 match x,y with
 |.int k a,.int k' b=>cu (decide (k=k')) (K (.int k (match mx with|true=>(if b>a then b else a)|false=>(if b<a then b else a))))
 |_,_=>False
def lV(T:iu)(G:List ba)(N M:Nat)(o:Oper)(st:St)(K:St->Prop):Prop:=
  match o.op with
  | .pick c a b=>match cj st.env c with
    | .bool t=>Ai t ((cj st.env a).force λd=>st.put N o.dst d st.rows K) ((cj st.env b).force λd=>st.put N o.dst d st.rows K)
    |_=>False
  | .call {callee:= .value (.func f),args, .. }=>match o6 G f with
    | none=>match BP G f with
      |false=>Kt G f (args.toList.map (cj st.env)) st.rows λd R=>st.put N o.dst d R K
      |true=>CN G M f (args.toList.map (cj st.env)) st.rows λks d R=>GA ks st.env λenv=>St.put N ⟨env,R⟩ o.dst d R K
    |some k=>cu (bN f YB)<|Ig G M f k (args.toList.map (cj st.env)) st.rows λks d R=>GA ks st.env λenv=>St.put N ⟨env,R⟩ o.dst d R K
  | .call {callee:= .value (.tmp t),args, .. }=>match look st.env t with
    | .gj f cs=>match o6 G f with
      | none=>match BP G f with
        |false=>Kt G f (args.toList.map (cj st.env)++cs.map iB.d) st.rows λd R=>st.put N o.dst d R K
        |true=>False
      |some k=>cu (bN f YB||bX args.size 1)<|Ig G M f k (args.toList.map (cj st.env)++cs.map iB.d) st.rows λks d R=>GA ks st.env λenv=>St.put N ⟨env,R⟩ o.dst d R K
    |_=>False
  | .call {callee:= .builtin .append,args,argTypes}=>match args.toList,argTypes.toList with
    |[x,y],[t,tx]=>Mc T M t tx (cj st.env x) (cj st.env y) st.rows λks d R=>GA ks st.env λenv=>St.put N ⟨env,R⟩ o.dst d R K
    |_,_=>False
  | .call {callee:= .builtin .copy,args,argTypes}=>match args.toList,argTypes.toList with
    |[x,y],[t,tx]=>tY T t tx (cj st.env x) (cj st.env y) st.rows λd R=>st.put N o.dst d R K
    |_,_=>False
  | .call {callee:= .builtin .min,args, .. }=>match args.toList with
    |[x,y]=>wm false (cj st.env x) (cj st.env y) λd=>st.put N o.dst d st.rows K
    |_=>False
  | .call {callee:= .builtin .max,args, .. }=>match args.toList with
    |[x,y]=>wm true (cj st.env x) (cj st.env y) λd=>st.put N o.dst d st.rows K
    |_=>False
  | .convert s d x=>match T.get s with
    |some ⟨.slice e _,_,_,_,_,_⟩=>wo T e d (cj st.env x) st.rows λd=>st.put N o.dst d st.rows K
    |_=>gp T (.convert s d x) (cj st.env) st.rows λd R=>st.put N o.dst d R K
  | .binOp op t x y ty=>match op,cj st.env x,cj st.env y with
    | .eql, .sl _ es _, .c7=>Kq T t es λd=>st.put N o.dst d st.rows K
    | .eql, .all r, .c7=>match st.rows.getD r none with
      |some ⟨_,_,_,es⟩=>Kq T t es λd=>st.put N o.dst d st.rows K
      |none=>False
    |_,_,_=>gp T (.binOp op t x y ty) (cj st.env) st.rows λd R=>st.put N o.dst d R K
  |op=>gp T op (cj st.env) st.rows λd R=>st.put N o.dst d R K
def mb(T:iu)(G:List ba)(N M:Nat)(ops:Array Oper):List Oper->St->(St->Prop)->Prop
  |[],st,K=>K st
  | o :: l, st,K=>match o.guard with
    |none=>lV T G N M o st λst=>mb T G N M ops l st K
    | some (j,want)=>match(ops[j]?).bind (·.dst) with
      | some g=>match look st.env g with
        | .bool b=>Ai b
            (match want with|true=>lV T G N M o (st.jT (.tmp g) true) λst=>mb T G N M ops l st K|false=>(st.jT (.tmp g) true).put N o.dst (.dw []) st.rows λst=>mb T G N M ops l st K)
            (match want with|false=>lV T G N M o (st.jT (.tmp g) false) λst=>mb T G N M ops l st K|true=>(st.jT (.tmp g) false).put N o.dst (.dw []) st.rows λst=>mb T G N M ops l st K)
        | .dw []=>st.put N o.dst (.dw []) st.rows λst=>mb T G N M ops l st K
        |_=>False
      |none=>False
def r8(G:List ba):Op->Bool
 |.store _ _ _=>true
 |.call {callee:=.value (.func f),.. }=>match oO G f with|some x=>(match x.refs with|[]=>x.o7|_=>true)|none=>true
 |.call {callee:=.value (.tmp _),.. }=>true
 |.call {callee:=.builtin .append,.. }=>true
 |.call {callee:=.builtin .copy,.. }=>true
 |_=>false
def lh(G:List ba)(o:Op):Bool:=!r8 G o
def BC(G:List ba)(ops:Array Oper)(b:Array Nat)(i j:Nat):Bool:=
 match ops[i]?,ops[j]? with
 |some x,some y=>
  (x.apart ops y||(b.getD j 0).testBit i)&&((lh G x.op&&lh G y.op)||(b.getD j 0).testBit i)
 |_,_=>true
def H5(G:List ba)(ops:Array Oper):Bool:=
 let b:=Region.before ops
 (cW ops.size).all λj=>(match ops[j]? with|some o=>o.after.all λe=>!Region.binds .any e||bN e.on j|none=>true)&&(cW j).all λi=>BC G ops b i j
def kZ(ops:Array Oper)(i a:Nat):Bool:=(ops.toList.drop i).all λo=>match o.dst with|some d=>!(bX d a)|none=>true
def Q6:List Operand->List Nat
 |[]=>[]
 |.tmp a::l=>a::Q6 l
 |_::l=>Q6 l
def rF:Op->Option (List Nat)
 |.assign x=>some (Q6 [x])
 |.move x=>some (Q6 [x])
 |.extract x _=>some (Q6 [x])
 |.nilCheck x=>some (Q6 [x])
 |.fieldAddr _ x _=>some (Q6 [x])
 |.buildSlice t len parts=>(match US t len with|true=>none|false=>some (Q6 (parts.toList.map (·.2))))
 |_=>none
def lR(env:List (Nat×D))(op:Op):Option (List Nat):=
 match rF op with
 |some q=>some q
 |none=>match op with
  |.build _ parts=>some (Q6 (parts.toList.map (·.2)))
  |.binOp _ _ x y _=>match cj env x with|.int _ _=>some (Q6 [x,y])|.str _=>some (Q6 [x,y])|.bool _=>some (Q6 [x,y])|_=>none
  |.unOp _ _ x=>some (Q6 [x])
  |.convert _ _ x=>match cj env x with|.int _ _=>some (Q6 [x])|.str _=>some (Q6 [x])|_=>none
  |.field _ x _=>some (Q6 [x])
  |.index _ x y=>some (Q6 [x,y])
  |.slice _ x (some y) (some z) none=>match cj env x with|.str _=>some (Q6 [x,y,z])|.sl _ _ _=>some (Q6 [x,y,z])|_=>none
  |.slice _ x (some y) none none=>match cj env x with|.str _=>some (Q6 [x,y])|.sl _ _ _=>some (Q6 [x,y])|_=>none
  |.slice _ x none (some z) none=>match cj env x with|.str _=>some (Q6 [x,z])|.sl _ _ _=>some (Q6 [x,z])|_=>none
  |.indexAddr _ x y=>match cj env x with|.sl _ _ _=>some (Q6 [x,y])|_=>none
  |.load _ x=>match cj env x with|.im _ _ _ _=>some (Q6 [x])|_=>none
  |.call {callee:=.builtin .len,args,.. }=>match args.toList with|[x]=>(match cj env x with|.str _=>some (Q6 [x])|.sl _ _ _=>some (Q6 [x])|_=>none)|_=>none
  |_=>none
def uY:D->Bool|.ptr _ _ _=>true|_=>false
def JS:D->Bool|.emp=>true|.c7=>true|_=>false
def FU:D->Bool|.int _ _=>true|.str _=>true|.bool _=>true|.sl _ _ _=>true|.emp=>true|.c7=>true|.iw=>true|_=>false
def uX:D->Bool|.all _=>true|.int _ _=>true|.str _=>true|.bool _=>true|.sl _ _ _=>true|.im _ _ _ _=>true|.ptr _ _ _=>true|.emp=>true|.c7=>true|.agg cs=>cs.all FU|_=>false
def Dn(ops:Array Oper)(env:List (Nat×D))(i j:Nat)(op:Op)(l:List Operand):Bool:=
 match op,l with
 |.load _ (.tmp a),.tmp x::_=>kZ ops i a&&(kZ ops j x&&(uY (look env a)&&JS (look env x)))
 |_,_=>false
def pC:D->Bool|.int _ _=>true|.str _=>true|.bool _=>true|.sl _ _ _=>true|.all _=>true|.agg cs=>cs.all FU|_=>false
def Dp(ops:Array Oper)(env:List (Nat×D))(i:Nat)(op:Op)(dst:Option Nat):Bool:=
 match op,dst with
 |.load _ (.tmp a),some t=>kZ ops i a&&(uY (look env a)&&(kZ ops (i+1) t&&pC (look env t)))
 |_,_=>false
def MA(G:List ba)(ops:Array Oper)(env:List (Nat×D))(i j:Nat):Bool:=
 match ops[i]?,ops[j]? with
 |some x,some y=>(match x.guard,y.guard,x.op,y.op with
  |none,none,.load _ (.tmp a),.store _ (.tmp b) _=>kZ ops i a&&(kZ ops j b&&(match look env a,look env b with|.ptr r _ _,.ptr r' _ _=>!(bX r r')|.im _ _ _ _,.ptr _ _ _=>true|_,_=>false))
  |none,none,op,.store _ (.tmp b) _=>(match lR env op with|some q=>(q.all λa=>kZ ops i a)&&(kZ ops j b&&(match look env b with|.ptr _ _ _=>true|_=>false))|none=>false)
  |none,none,op,.call {callee:=.value (.func f),.. }=>(match(match o6 G f with|some _=>true|none=>BP G f)with|true=>false|false=>match lR env op with|some q=>q.all λa=>kZ ops i a|none=>false)
  |none,none,op,.call {callee:=.builtin .append,args,.. }=>(match lR env op with|some q=>(q.all λa=>kZ ops i a&&uX (look env a))&&(match x.dst with|some t=>kZ ops (i+1) t&&uX (look env t)|none=>true)|none=>Dn ops env i j op args.toList||Dp ops env i op x.dst)
  |_,_,_,_=>false)
 |_,_=>false
def uZ(ops:Array Oper)(j:Nat):Bool:=
 match ops[j]? with
 |some y=>match y.guard,y.op with
  |none,.alloc _=>(match y.dst with|none=>true|some u=>(cW ops.size).all λk=>bX k j||(match(ops[k]?).bind (·.dst)with|some d=>!(bX d u)|none=>true))
  |_,_=>false
 |none=>false
def wX(G:List ba)(ops:Array Oper)(env:List (Nat×D))(b:Array Nat)(i j:Nat):Bool:=
 match ops[i]?,ops[j]? with
 |some x,some y=>
  (x.apart ops y||(b.getD j 0).testBit i)&&((lh G x.op&&lh G y.op)||(b.getD j 0).testBit i||(MA G ops env i j||uZ ops j))
 |_,_=>true
def Rd(G:List ba)(ops:Array Oper)(env:List (Nat×D)):Bool:=
 let b:=Region.before ops
 (cW ops.size).all λj=>(match ops[j]? with|some o=>o.after.all λe=>!Region.binds .any e||bN e.on j|none=>true)&&(cW j).all λi=>wX G ops env b i j
def HV(x:Nat):List Nat->Nat->List Nat
 |l,0=>x::l
 |[],_=>[x]
 |y::l,n+1=>y::HV x l n
def Dz(m:Nat):List Nat->Nat->Nat->Nat
 |[],_,r=>r
 |y::l,k,r=>Dz m l (k+1) (match m.testBit y with|true=>k+1|false=>r)
def DA:List Oper->Bool
 |[]=>false
 |o::l=>match o.op with|.buildSlice _ 0 _=>true|_=>DA l
def Gc(e e2:Bool)(op:Op):Bool:=match rF op with|some _=>true|none=>(match op with|.load _ _=>e|.slice _ _ _ _ _=>e2|.binOp _ _ _ _ _=>e2|_=>false)
def DB(e e2:Bool)(ops:Array Oper)(b:Array Nat):List Nat->List Nat->List Nat
 |[],acc=>acc
 |j ::js,acc=>DB e e2 ops b js (match ops[j]? with
  |some o=>(match o.guard with
   |none=>(match Gc e e2 o.op with|true=>HV j acc (Dz (b.getD j 0) acc 0 0)|false=>acc++[j])
   |some _=>acc++[j])
  |none=>acc)
def RR(ops:Array Oper)(b:Array Nat):Bool:=
 (cW ops.size).any λj=>(match ops[j]? with|some y=>(match y.op with|.load _ _=>true|_=>false)|none=>false)&&(cW j).any λi=>(match ops[i]? with|some x=>(match x.op with|.call {callee:=.builtin .append,.. }=>true|_=>false)|none=>false)&&!((b.getD j 0).testBit i)
def RS(ops:Array Oper)(b:Array Nat):Bool:=
 (cW ops.size).any λj=>(match ops[j]? with|some y=>(match y.op with|.slice _ _ _ _ _=>true|_=>false)|none=>false)&&(cW j).any λi=>(match ops[i]? with|some x=>(match x.op with|.call {callee:=.builtin .append,.. }=>true|_=>false)|none=>false)&&!((b.getD j 0).testBit i)
def Vx(ops:Array Oper):List Nat:=DB (DA ops.toList||RR ops (Region.before ops)) (RS ops (Region.before ops)) ops (Region.before ops) (cW ops.size) []
def Vh(p:List Nat)(n:Nat):Bool:=bX p.length n&&(((cW n).all λi=>da i p)&&((p.all λi=>bN i n)&&CX p))
def Dt(p:List Nat)(e:Edge):Edge:=⟨pos e.on p 0,e.ground⟩
def MC(p:List Nat)(o:Oper):Oper:=⟨o.dst,o.op,o.type,o.pos,o.after.map (Dt p),match o.guard with|none=>none|some (j,w)=>some (pos j p 0,w)⟩
def Q5(p:List Nat)(ops:Array Oper):Array Oper:=(p.map λi=>MC p (ops.getD i default)).toArray
def uU(T:iu)(G:List ba)(N M:Nat)(ops:Array Oper)(st:St)(Q:Ex->St->Prop):Prop:=
 match H5 G ops with
 |true=>mb T G N M ops ops.toList st λst=>Q .normal st
 |false=>cu (Vh (Vx ops) ops.size)<|mb T G N M (Q5 (Vx ops) ops) (Q5 (Vx ops) ops).toList st λst=>cu (Rd G (Q5 (Vx ops) ops) st.env) (Q .normal st)
def HF(i n:Nat):List D->Option (List D)
 |[]=>none
 |d::l=>match d,l with
  |.iw,.c7::m=>some (.gk i:: .all n::m)
  |d,l=>match HF i n l with|some l'=>some (d::l')|none=>none
def RU(T:iu)(t:TypeId):Bool:=match T.get t with|some ⟨_,_,_,_,some ds,_⟩=>(match HF 0 0 ds with|some _=>true|none=>false)|_=>false
def u9(T:iu):List Oper->Bool
 |[]=>false
 |o::l=>match o.op with|.alloc t=>(match RU T t with|true=>true|false=>u9 T l)|_=>u9 T l
def RV:iu->Option TypeId
 |[]=>none
 |(u,i)::l=>match i.kind with|.int .u8=>some u|_=>RV l
def Jah(T:iu):Code->Option TypeId
 |.region _ ops _=>(match u9 T ops.toList with|true=>RV T|false=>none)
 |_=>none
def JE(n:Nat):Rows->Nat->Option (Nat×TypeId×Nat×List D)
 |[],_=>none
 |x::l,i=>match x with
  |some ⟨true,ty,sz,.gen [e]⟩=>(match HF i n e with|some e'=>some (i,ty,sz,e')|none=>JE n l (i+1))
  |_=>JE n l (i+1)
def JF(T:iu)(a:Code)(st:St)(K:St->Prop):Prop:=
 match Jah T a with
 |none=>K st
 |some u=>match JE st.rows.length st.rows 0 with
  |none=>K st
  |some (i,ty,sz,e)=>D.jY e λe=>tN (st.rows.set i (some ⟨true,ty,sz,.gen [e]⟩)++[some ⟨false,u,1,.ints .u8 []⟩]) λR=>K ⟨st.env,R⟩
def D.BR(R:Rows)(ks:List Nat):D->D
 |.all r=>match da r ks with
  |true=>(match R.getD r none with|some ⟨false,_,sz,es⟩=>.sl sz es false|_=>.dead)
  |false=>.all r
 |.ptr r i off=>match da r ks with
  |true=>(match R.getD r none with|some ⟨true,_,sz,.gen [e]⟩=>(match e.all D.plain with|true=>.im sz (.gen [e]) i off|false=>.dead)|_=>.dead)
  |false=>.ptr r i off
 |d=>d.ez ks
def D.ss(R:Rows)(ks:List Nat):List D->List D
 |[]=>[]
 |d::l=>d.BR R ks::ss R ks l
def D.Ik(R:Rows)(ks:List Nat):D->D
 |.agg cs=>.agg (D.ss R ks cs)
 |d=>d.BR R ks
def D.Il(R:Rows)(ks:List Nat):List D->List D
 |[]=>[]
 |d::l=>d.Ik R ks::Il R ks l
def D.BS(R:Rows)(ks:List Nat):D->D
 |.dw ds=>.dw (D.Il R ks ds)
 |d=>d.Ik R ks
def Row.mq(R:Rows)(ks:List Nat):Row->Row
 |⟨true,ty,sz,.gen [e]⟩=>⟨true,ty,sz,.gen [D.ss R ks e]⟩
 |r=>r
def Kw(R0:Rows)(ks:List Nat):Rows->Nat->Rows
 |[],_=>[]
 |x::l,i=>(match da i ks with|true=>none|false=>match x with|some row=>some (row.mq R0 ks)|none=>none)::Kw R0 ks l (i+1)
def EE(R:Rows)(ks:List Nat):List (Nat×D)->(List (Nat×D)->Prop)->Prop
 |[],K=>K []
 |(t,d)::l,K=>(d.BS R ks).force λd=>EE R ks l λl=>K ((t,d)::l)
def DC:List D->List Nat
 |[]=>[]
 |d::l=>(match d with|.all r=>[r]|_=>[])++DC l
def RW:D->List Nat|.agg cs=>DC cs|.all r=>[r]|_=>[]
def Gd(R:Rows)(n:Nat)(d:D):List Nat:=
 match d with
 |.ptr r _ off=>match R.getD r none with|some ⟨true,_,_,.gen [e]⟩=>DC ((e.drop off).take n)|_=>[]
 |_=>[]
def HW:List (Nat×List Nat)->Nat->Option (List Nat)
 |[],_=>none
 |(u,x)::l,t=>match bX u t with|true=>some x|false=>HW l t
def MG(env:List (Nat×D)):List (Nat×D)->Nat->D
 |[],t=>look env t
 |(u,x)::l,t=>match bX u t with|true=>x|false=>MG env l t
def wa(env:List (Nat×D))(acc:List (Nat×List Nat)):Operand->List Nat
 |.tmp t=>match HW acc t with|some l=>l|none=>RW (look env t)
 |_=>[]
def w5(env:List (Nat×D))(acc:List (Nat×List Nat)):List Operand->List Nat
 |[]=>[]
 |x::l=>wa env acc x++w5 env acc l
def J8(T:iu)(env:List (Nat×D))(R:Rows)(acc:List (Nat×List Nat))(pa:List (Nat×D))(o:Oper):List (Nat×List Nat):=
 match o.dst with
 |none=>acc
 |some t=>match o.op with
  |.load ty (.tmp p)=>(t,Gd R (match T.get ty with|some i=>i.size|none=>0) (MG env pa p))::acc
  |.move x=>(t,wa env acc x)::acc
  |.slice _ x _ _ _=>(t,wa env acc x)::acc
  |_=>acc
def J9(T:iu)(env:List (Nat×D))(pa:List (Nat×D))(o:Oper):List (Nat×D):=
 match o.dst with
 |none=>pa
 |some t=>match o.op with
  |.fieldAddr s (.tmp p) f=>(match QC T s f with|some (k,_,_)=>(match MG env pa p with|.ptr r i off=>(t,.ptr r i (off+k))::pa|_=>pa)|none=>pa)
  |.move (.tmp p)=>(t,MG env pa p)::pa
  |.nilCheck (.tmp p)=>(t,MG env pa p)::pa
  |_=>pa
def Ka(G:List ba)(f:FuncId):Bool:=match oO G f with|some x=>x.o7||(match x.refs with|[]=>!x.flat|_=>false)|none=>false
def RX(T:iu)(env:List (Nat×D))(pa:List (Nat×D))(t:TypeId)(p:Nat):List Nat:=
 match T.get t with
 |some ⟨.array _ _ _,_,_,_,_,_⟩=>(match MG env pa p with|.ptr r _ _=>[r]|_=>[])
 |_=>[]
def SP(T:iu)(G:List ba)(env:List (Nat×D))(R:Rows):List (Nat×List Nat)->List (Nat×D)->List Oper->List Nat
 |_,_,[]=>[]
 |acc,pa,o::l=>(match o.op with|.call {callee:=.value (.func f),args,.. }=>(match Ka G f with|true=>w5 env acc args.toList|false=>[])|.slice t (.tmp p) _ _ _=>RX T env pa t p|_=>[])++SP T G env R (J8 T env R acc pa o) (J9 T env pa o) l
def uk(M:Nat)(R:Rows):List Nat->List Nat
 |[]=>[]
 |r::l=>match gD M r&&(match R.getD r none with|some ⟨false,_,_,_⟩=>true|some ⟨true,_,_,.gen [e]⟩=>e.all D.plain|_=>false)with|true=>r::uk M R l|false=>uk M R l
def Im(T:iu)(G:List ba)(M:Nat)(ops:Array Oper)(st:St)(K:St->Prop):Prop:=
 match uk M st.rows (SP T G st.env st.rows [] [] ops.toList)with
 |[]=>K st
 |ks=>EE st.rows ks st.env λenv=>tN (Kw st.rows ks st.rows 0) λR=>K ⟨env,R⟩
def um(T:iu)(R:Rows)(i:Nat):Option (TypeId×Nat×TypeId×Nat):=
 match R.getD i none with
 |some ⟨true,ty,sz,.gen [[d]]⟩=>(match d with
  |.c7=>(match T.get ty with|some ⟨.slice e n,_,_,_,_,_⟩=>(match bN 0 n with|true=>some (ty,sz,e,n)|false=>none)|_=>none)
  |.emp=>(match T.get ty with|some ⟨.slice e n,_,_,_,_,_⟩=>(match bN 0 n with|true=>some (ty,sz,e,n)|false=>none)|_=>none)
  |_=>none)
 |_=>none
def Io(T:iu):List iB->List (Nat×D)->Rows->(Rows->Prop)->Prop
 |[],_,R,K=>K R
 |.ptr i _ _::l,env,R,K=>(match um T R i with
  |some (ty,sz,e,n)=>uN R ⟨false,e,n,.gen []⟩ λk R=>tN (R.set i (some ⟨true,ty,sz,.gen [[.all k]]⟩)) λR=>Io T l env R K
  |none=>Io T l env R K)
 |_::l,env,R,K=>Io T l env R K
def Vy(env:List (Nat×D)):List Operand->List iB
 |[]=>[]
 |.tmp t::l=>(match look env t with|.ptr i o f=>.ptr i o f::Vy env l|_=>Vy env l)
 |_::l=>Vy env l
def w6(env:List (Nat×D)):List Oper->List iB
 |[]=>[]
 |o::l=>(match o.op with|.makeFunc _ _ captured=>Vy env captured.toList|_=>[])++w6 env l
def splitAt:List (Nat×Nat)->Nat->Option Nat
 |[],_=>none
 |(g,i)::l,f=>match bX g f with|true=>some i|false=>splitAt l f
def Zov:List (Nat×Operand)->Nat->Operand
 |[],t=>.tmp t
 |(s,x)::l,t=>match bX s t with|true=>x|false=>Zov l t
def Vz:List (Nat×Operand)->List Oper->Option Operand
 |_,[]=>none
 |mv,o::l=>match o.op with
  |.call {callee:=.value (.func f),args,.. }=>(match splitAt splits f with
   |some i=>(match args.toList[i]? with|some (.tmp t)=>some (Zov mv t)|_=>none)
   |none=>Vz mv l)
  |.move x=>Vz (match o.dst with|some t=>(t,x)::mv|none=>mv) l
  |_=>Vz mv l
def uV(ops:List Oper)(st:St)(K:St->Prop):Prop:=
 match Vz [] ops with
 |none=>K st
 |some x=>match cj st.env x with
  |.bool t=>Ai t (K (st.jT x true)) (K (st.jT x false))
  |_=>K st
def o8(T:iu)(G:List ba)(N M:Nat)(L:Code->St->(Ex->St->Prop)->Prop):Code->St->(Ex->St->Prop)->Prop
 |.skip,st,Q=>Q .normal st
 |.label _,st,Q=>Q .normal st
 |.region _ ops draw,st,Q=>uV ops.toList st λst=>Io T (w6 st.env ops.toList) st.env st.rows λR=>Im T G M ops ⟨st.env,R⟩ λst=>match draw with|true=>uU T G N M ops st Q|false=>mb T G N M ops ops.toList st λst=>Q .normal st
 |.seq a b,st,Q=>o8 T G N M L a st λe st=>match e with|.normal=>JF T a st λst=>o8 T G N M L b st Q|.exit i=>Q (.exit i) st|.ret=>Q .ret st
 |.cond c a b,st,Q=>match cj st.env c with
  |.bool t=>Ai t (o8 T G N M L a (st.jT c true) Q) (o8 T G N M L b (st.jT c false) Q)
  |.mW es=>(es.Nil->o8 T G N M L a (st.jT c true) Q)/\o8 T G N M L b (st.jT c false) Q
  |_=>False
 |.block id c,st,Q=>o8 T G N M L c st λe st=>match e with|.normal=>Q .normal st|.exit i=>(match bX i id with|true=>Q .normal st|false=>Q (.exit i) st)|.ret=>Q .ret st
 |.exit id,st,Q=>Q (.exit id) st
 |.ret,st,Q=>Q .ret st
 |.scope c,st,Q=>o8 T G N M L c st Q
 |c,st,Q=>L c st Q
def FP(T:iu)(R:Rows)(env:List (Nat×D)):List ResultVar->(List D->Prop)->Prop
 |[],K=>K []
 |.tmp t::l,K=>(look env t).force λd=>cu d.isVal (FP T R env l λds=>K (d::ds))
 |.cell a t::l,K=>wR T t (look env a) R λd _=>cu d.isVal (FP T R env l λds=>K (d::ds))
def j6(ex:List Nat)(i r:Nat):Bool:=match ex[i]? with|some x=>bX x r|none=>false
def KB(ex:List Nat)(r:Nat):Bool:=ex.all λx=>!(bX x r)
def ID(ex:List Nat)(R:Rows)(i:Nat):Bool:=match ex[i]? with|some r=>(match R.getD r none with|none=>true|some _=>false)|none=>false
def ai.Eq:ai->ai->Prop
 |.ints k l,.ints k' m=>match decide (k=k')with|true=>l=m|false=>(ai.ints k l).l=(ai.ints k' m).l
 |.ag l,.ag m=>l=m
 |.gen es,.gen fs=>es=fs
 |.gen [],.ints _ m=>m=[]
 |.gen [],.ag m=>m=[]
 |.gen [],.ah _ m=>m=[]
 |.ah k l,.ah k' m=>(match Gr k k' l with|some l'=>l'=m|none=>(ai.ah k l).l=(ai.ah k' m).l)
 |E,F=>E.l=F.l
theorem ai.Aj{E F:ai}(h:ai.Eq E F):E.l=F.l:=by
 cases E with
 |gen es=>
  cases es with
  |nil=>cases F<;>simp_all [ai.Eq,ai.l]
  |cons e es=>cases F<;>simp_all [ai.Eq,ai.l]
 |ints k l=>
  cases F with
  |ints k' m=>
   simp only[ai.Eq]at h
   split at h
   ·rename_i hk;subst h;rw[oY hk]
   ·exact h
  |_=>exact h
 |ag l=>
  cases F with
  |ag m=>simp only[ai.Eq]at h;rw[h]
  |_=>exact h
 |ah k l=>
  cases F with
  |ah k' m=>
   simp only[ai.Eq]at h
   split at h
   ·rename_i l' hc
    obtain⟨e,hm⟩:=Wk hc
    subst e
    simp only at hm
    rw[<-h,<-hm]
   ·exact h
  |_=>exact h
theorem ai.ov{E:ai}:E.Nil↔E.l=[]:=by
 cases E<;>simp[ai.Nil,ai.l]
def sA(ex:List Nat):List (Nat×Nat×Nat)->List (Nat×Nat×Nat)->Bool
 |[],[]=>true
 |(i,b,c)::l,(r,y,z)::m=>j6 ex i r&&(bX b y&&(bX c z&&sA ex l m))
 |_,_=>false
def o9(ex:List Nat):List iB->List iB->Bool
 |[],[]=>true
 |.ptr i b c::l,.ptr r y z::m=>j6 ex i r&&(bX b y&&(bX c z&&o9 ex l m))
 |.fn f ps::l,.fn g qs::m=>bX f g&&(sA ex ps qs&&o9 ex l m)
 |_,_=>false
def iI(ex:List Nat)(m:Nat)(R:Rows)(d p:D):Prop:=
 match p with
 |.int k n=>match d with|.int j q=>cu (decide (j=k)) (q=n)|_=>False
 |.bool b=>match d with|.bool a=>a=b|_=>False
 |.str s=>match d with|.str u=>u=s|_=>False
 |.iw=>match d with|.iw=>True|_=>False
 |.jI=>match d with|.jI=>True|_=>False
 |.gj f cs=>match d with|.gj g ds=>cu (bX f g&&o9 ex cs ds) True|_=>False
 |.ptr i o f=>match d with|.ptr r o' f'=>cu (j6 ex i r&&(bX o o'&&bX f f')) True|_=>False
 |.gk i=>match d with|.iw=>True|.gk r=>cu (j6 ex i r) True|.ptr r o f=>cu (j6 ex i r&&(bX o 0&&bX f 0)) True|_=>False
 |.c7=>match d with|.c7=>True|_=>False
 |.emp=>match d with|.c7=>True|.emp=>True|_=>False
 |.sl sz es fr=>match d with
  |.c7=>es.Nil
  |.emp=>es.Nil
  |.sl j5 iT fr'=>cu (!fr||fr') ((iT.Nil\/j5=sz)/\ai.Eq iT es)
  |.all r=>match R.getD r none with
   |some ⟨box,_,j5,iT⟩=>cu (!box&&bX j5 sz&&KB ex r&&gD m r) (ai.Eq iT es)
   |none=>False
  |.own r o n=>match R.getD r none with
   |some ⟨box,_,j5,iT⟩=>cu (!box&&bX j5 sz&&KB ex r&&gD m r) (ai.Eq ((iT.drop o).take n) es)
   |none=>False
  |_=>False
 |.all i=>match d with|.all r=>cu (j6 ex i r) True|.c7=>cu (ID ex R i) True|.emp=>cu (ID ex R i) True|_=>False
 |.own i o n=>match d with|.own r o' n'=>cu (j6 ex i r) (o'=o/\n'=n)|_=>False
 |.dead=>cu d.HH True
 |_=>False
def DN(ex:List Nat)(m:Nat)(R:Rows):List D->List D->Prop
 |[],[]=>True
 |d::ds,p::ps=>iI ex m R d p/\DN ex m R ds ps
 |_,_=>False
def pb(ex:List Nat)(m:Nat)(R:Rows)(d p:D):Prop:=
 match p with
 |.agg ps=>match d with|.agg ds=>DN ex m R ds ps|_=>False
 |p=>iI ex m R d p
def wz(ex:List Nat)(m:Nat)(R:Rows):List D->List D->Prop
 |[],[]=>True
 |d::ds,p::ps=>pb ex m R d p/\wz ex m R ds ps
 |_,_=>False
def sw(ex:List Nat)(m:Nat)(R:Rows)(d p:D):Prop:=
 match p with
 |.dw ps=>match d with|.dw ds=>wz ex m R ds ps|_=>False
 |p=>pb ex m R d p
def lW(ex:List Nat)(m:Nat)(R:Rows):List Nat->List Row->Prop
 |[],[]=>True
 |r ::rs,⟨box,ty,sz,es⟩::ps=>(match R.getD r none with
  |some ⟨Am,jS,j5,iT⟩=>cu (Bool.xor (!box) Am&&bX ty jS&&bX sz j5) (match box with
   |false=>ai.Eq iT es
   |true=>match iT,es with|.gen [e'],.gen [e]=>DN ex m R e' e|_,_=>False)
  |none=>cu (!box&&bN 0 sz) es.Nil)/\lW ex m R rs ps
 |_,_=>False
def newAt(n0:Nat):List (Nat×Nat)->Nat->Nat
 |[],i=>n0+i
 |(j,r)::l,i=>match bX j i with|true=>r|false=>newAt n0 l i
def news(n0:Nat)(l:List (Nat×Nat)):Nat->Nat->List Nat
 |_,0=>[]
 |i,n+1=>newAt n0 l i::news n0 l (i+1) n
def Mv:List Nat->List Nat->Bool
 |[],[]=>true
 |x::l,y::m=>bX x y&&Mv l m
 |_,_=>false
def sx(M:Nat)(ex:List Nat):Bool:=(Mv (ex.take M) (cW M)&&(ex.drop M).all λr=>gD M r)&&CX (ex.drop M)
def Ao(m:Nat)(res:D)(rows:List Row)(d:D)(R:Rows):Prop:=
 ∃ex,sx m ex=true/\sw ex m R d res/\lW ex m R ex rows
def FO:List D->Nat->List (Nat×D)
 |[],_=>[]
 |d::ds,i=>(i,d)::FO ds (i+1)
def kf(T:iu)(G:List ba)(L:Code->St->(Ex->St->Prop)->Prop)(fn:Func)(args:List D)(rows:List Row)(Q:D->Rows->Prop):Prop:=
 match fn.body with
 |some c=>o8 T G fn.ntmps rows.length L c ⟨FO args 0,rows.map some⟩ λe st=>match e with
  |.exit _=>False
  |_=>FP T st.rows st.env fn.results.toList λds=>match ds with|[d]=>Q d st.rows|ds=>Q (.dw ds) st.rows
 |none=>False
def oF:List Nat->List D->List (Nat×D)
 |t::ts,d::ds=>(t,d)::oF ts ds
 |_,_=>[]
def AA:List iB->List Nat
 |[]=>[]
 |.fn f _::l=>f::AA l
 |_::l=>AA l
def AB:D->List Nat|.gj f cs=>f::AA cs|_=>[]
def rA:List D->List Nat
 |[]=>[]
 |d::l=>AB d++rA l
def Fz:D->List Nat|.agg cs=>rA cs|d=>AB d
def oC:List D->List Nat
 |[]=>[]
 |d::l=>Fz d++oC l
def CQ:D->List Nat|.dw ds=>oC ds|d=>Fz d
def kB:List Row->List Nat
 |[]=>[]
 |⟨true,_,_,.gen [e]⟩::l=>rA e++kB l
 |_::l=>kB l
def GB:Rows->List Nat
 |[]=>[]
 |some r::l=>kB [r]++GB l
 |none::l=>GB l
def rb(l:List Nat):Bool:=l.all λf=>bN f YB
def Ak:List (Nat×D)->List Nat
 |[]=>[]
 |(_,d)::l=>CQ d++Ak l
def FR (T:iu)(G:List ba)(L:Code->St->(Ex->St->Prop)->Prop)(fn:Func)(args:List D)(rows:List Row)(Q:D->Rows->Prop)(M:Nat):Prop:=
 match fn.body with
 |some c =>match gD YB fn.nfree with
  |true =>match bX fn.nfree YB with
   |true=>o8 T G fn.ntmps M L c ⟨oF fn.params.toList args,rows.map some⟩ λe st=>match e with
    |.normal=>Q (.bool true) st.rows
    |_=>False
   |false=>match c with
    |.seq a b=>o8 T G fn.ntmps M L a ⟨oF fn.params.toList args,rows.map some⟩ λe st=>match e with
     |.normal=>cu (rb (Ak st.env++GB st.rows)) (o8 T G fn.ntmps M L b st λe st=>match e with
      |.normal=>Q (.bool true) st.rows
      |_=>False)
     |_=>False
    |_=>False
  |false=>o8 T G fn.ntmps M L c ⟨FO args 0,rows.map some⟩ λe st=>match e with
  |.exit _=>False
  |_=>FP T st.rows st.env fn.results.toList λds=>match ds with|[d]=>Q d st.rows|ds=>Q (.dw ds) st.rows
 |none=>False
