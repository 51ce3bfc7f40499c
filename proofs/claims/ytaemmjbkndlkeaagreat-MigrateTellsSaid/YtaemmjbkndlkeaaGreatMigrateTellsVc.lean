import Derived.Test.YtaemmjbkndlkeaaGreatMigrateTellsFy
open Nat renaming beq->bX,blt->bN,ble->gW
open BitVec renaming ofInt->dR
open List renaming replicate->cO,range->cW
set_option linter.all false
namespace Go.GD
open Go
variable {b:Bool}{p:Prop}
def cy(b:Bool)(p:Prop):Prop:=match b with|true=>p|false=>False
def AT(b:Bool)(p q:Prop):Prop:=match b with|true=>p|false=>q
theorem de:cy b p↔b=true/\p:=by cases b<;>simp[cy]
theorem Zb4{p q:Prop}:AT b p q↔(b=true->p)/\(b=false->q):=by cases b<;>simp[AT]
abbrev Rows:=List (Option Row)
namespace D
def Gs(n:Nat):D->Bool|.sl m _ _=>bX m n|.c8=>true|.emp=>true|_=>false
def toEs:D->ag|.sl _ es _=>es|_=>.gen []
def wQ:D->Bool|.agg _=>false|.dw _=>false|.dead=>false|_=>true
def isVal:D->Bool|.dw _=>false|.dead=>false|_=>true
def ID:D->Bool|.agg _=>false|.dw _=>false|_=>true
def plain:D->Bool|.bool _=>true|.int _ _=>true|.str _=>true|.iQ=>true|.c8=>true|.emp=>true|.sl _ _ _=>true|_=>false
def cells:D->List D|.agg cs=>cs|d=>[d]
def force:D->(D->Prop)->Prop
 |.bool b,K=>K (.bool b)
 |.int k n,K=>K (.int k n)
 |.str s,K=>K (.str s)
 |.sl a b c,K=>K (.sl a b c)
 |.all a,K=>K (.all a)
 |.own a b c,K=>K (.own a b c)
 |.ptr a b c,K=>K (.ptr a b c)
 |.pa a b c d e f,K=>K (.pa a b c d e f)
 |.iu a b c d,K=>K (.iu a b c d)
 |.iQ,K=>K .iQ
 |.c8,K=>K .c8
 |.emp,K=>K .emp
 |.nA es,K=>K (.nA es)
 |.dead,K=>K .dead
 |.gv a b,K=>K (.gv a b)
 |.gw a,K=>K (.gw a)
 |.j4,K=>K .j4
 |.agg a,K=>K (.agg a)
 |.dw a,K=>K (.dw a)
end D
def D.kr:List D->(List D->Prop)->Prop
 |[],K=>K []
 |d::l,K=>d.force λd=>kr l λl=>K (d::l)
def uB:Rows->(Rows->Prop)->Prop
 |[],K=>K []
 |d::l,K=>uB l λl=>K (d::l)
inductive rT where
 |int (k:IntKind)|bool|str|sl (n:Nat)|other
inductive TK where
 |int (k:IntKind)|bool|string
 |slice (e:TypeId) (n:Nat)
 |struct (fs:List (Nat×TypeId×Nat))
 |array (len:Nat) (e:TypeId) (n:Nat)
 |other
structure TI where
 kind:TK
 size:Nat
 bytes:Nat
 tH:List rT
 zero:Option (List D)
 eq:Bool
abbrev iz:=List (TypeId×TI)
def iz.get:iz->TypeId->Option TI
 |[],_=>none
 |(u,i)::l,t=>match bX u t with|true=>some i|false=>iz.get l t
def TK.isAgg:TK->Bool|.struct _=>true|.array _ _ _=>true|_=>false
def wz(pl:Bool):rT->D->(D->Prop)->Prop
 |.int k,c,K=>cy (c.isInt k) (K (.int k c.toInt))
 |.bool,c,K=>cy c.isBool (K (.bool c.toBool))
 |.str,c,K=>cy c.isStr (K (.str c.toStr))
 |.sl n,c,K=>match pl with
  |true=>cy (c.Gs n) (K (.sl n c.toEs false))
  |false=>cy c.wQ (c.force K)
 |.other,c,K=>match pl with
  |true=>match c with|.iQ=>K .iQ|_=>False
  |false=>cy c.wQ (c.force K)
def Fb(pl:Bool)(e:List D):List rT->Nat->(List D->Prop)->Prop
 |[],_,K=>K []
 |t::ts,off,K=>wz pl t (e.getD off .dead) λd=>Fb pl e ts (off+1) λds=>K (d::ds)
def wA(pl:Bool)(t:TI)(e:List D)(off:Nat)(K:D->Prop):Prop:=
 match t.kind.isAgg with
 |true=>Fb pl e t.tH off λds=>K (.agg ds)
 |false=>match t.tH with
  |[y]=>wz pl y (e.getD off .dead) K
  |_=>False
def lK:List D->Nat->List D->List D
 |e,_,[]=>e
 |e,off,v::vs=>lK (e.set off v) (off+1) vs
def Zq:Value->Option D
 |.bool b=>some (.bool b)
 |.int k n=>some (.int k n)
 |.string s=>some (.str s.data.toList)
 |.slice none 0 0=>some .c8
 |.pointer none=>some .iQ
 |.nilIface=>some .j4
 |.nilFunc=>some .dead
 |_=>none
def Cc:List Value->Option (List D)
 |[]=>some []
 |v::vs=>match Zq v,Cc vs with|some d,some ds=>some (d::ds)|_,_=>none
def Zn:Value->Option D
 |.agg cs=>(Cc cs.toList).map .agg
 |v=>Zq v
structure St where
 env:List (Nat×D)
 rows:Rows
def look:List (Nat×D)->Nat->D
 |[],_=>.dead
 |(u,d)::l,t=>match bX u t with|true=>d|false=>look l t
def cw(env:List (Nat×D)):Operand->D
 |.tmp t=>look env t
 |.const v=>(Zn v).getD .dead
 |.func f=>match bN f YB with|true=>.gv f []|false=>.dead
 |_=>.dead
def bm(k:IntKind)(x y:Int):Int:=k.wrap (dR k.bits x&&&dR k.bits y).toNat
def ja(k:IntKind)(x y:Int):Int:=k.wrap (dR k.bits x|||dR k.bits y).toNat
def sn(k:IntKind)(x y:Int):Int:=k.wrap (dR k.bits x^^^dR k.bits y).toNat
def oA(k:IntKind)(x y:Int):Int:=k.wrap (dR k.bits x&&&~~~dR k.bits y).toNat
def ei(k:IntKind)(x y:Int):Int:=k.wrap (x*2^(min y.toNat k.bits))
def bn(k:IntKind)(x y:Int):Int:=x.fdiv (2^(min y.toNat k.bits))
def W3(op:BinOp)(k:IntKind)(x y:Int)(K:D->Prop):Prop:=
 match op with
 |.add=>K (.int k (k.wrap (x+y)))
 |.sub=>K (.int k (k.wrap (x-y)))
 |.mul=>K (.int k (k.wrap (x*y)))
 |.quo=>cy (decide (y≠0)) (K (.int k (k.wrap (x.tdiv y))))
 |.rem=>cy (decide (y≠0)) (K (.int k (x.tmod y)))
 |.and=>K (.int k (bm k x y))
 |.or=>K (.int k (ja k x y))
 |.xor=>K (.int k (sn k x y))
 |.andNot=>K (.int k (oA k x y))
 |.eql=>K (.bool (x==y))
 |.neq=>K (.bool (x !=y))
 |.lss=>K (.bool (decide (x<y)))
 |.leq=>K (.bool (decide (x<=y)))
 |.gtr=>K (.bool (decide (x>y)))
 |.geq=>K (.bool (decide (x>=y)))
 |_=>False
def Rv:D->D->Bool
 |.int _ a,.int _ b=>a==b
 |.bool a,.bool b=>a==b
 |.str a,.str b=>decide (a=b)
 |_,_=>false
def eqs:List D->List D->Bool
 |[],_=>true
 |a::l,b::m=>Rv a b&&eqs l m
 |_::_,[]=>false
def fits:List rT->List D->Bool
 |[],[]=>true
 |.int k::t,d::l=>d.isInt k&&fits t l
 |.bool::t,d::l=>d.isBool&&fits t l
 |.str::t,d::l=>d.isStr&&fits t l
 |_,_=>false
def tI(T:iz)(op:BinOp)(t:TypeId)(x y:D)(K:D->Prop):Prop:=
 match x,y with
 |.int k a,.int k' b=>
  match op with
  |.shl=>cy (decide (0<=b)) (K (.int k (ei k a b)))
  |.shr=>cy (decide (0<=b)) (K (.int k (bn k a b)))
  |op=>cy (decide (k=k')) (W3 op k a b K)
 |.str a,.str b=>
  match op with
  |.add=>cy (decide (a.length+b.length<=maxLen)) (K (.str (a++b)))
  |.eql=>K (.bool (decide (a=b)))
  |.neq=>K (.bool (!decide (a=b)))
  |_=>False
 |.bool a,.bool b=>
  match T.get t with
  |some ⟨.bool,_,_,_,_,_⟩=>match op with
   |.eql=>K (.bool (a==b))
   |.neq=>K (.bool (!(a==b)))
   |_=>False
  |_=>False
 |.agg a,.agg b=>
  match T.get t with
  |some ti=>cy (ti.kind.isAgg&&bN 0 ti.size&&ti.eq&&fits ti.tH a&&fits ti.tH b)<|
   match op with
   |.eql=>K (.bool (eqs a b))
   |.neq=>K (.bool (!(eqs a b)))
   |_=>False
  |none=>False
 |_,_=>False
def Zj(T:iz)(s d:TypeId)(x:D)(K:D->Prop):Prop:=
 match T.get s,T.get d with
 |some ⟨.int _,_,_,_,_,_⟩,some ⟨.int k,_,_,_,_,_⟩=>match x with
  |.int _ n=>K (.int k (k.wrap n))
  |_=>False
 |some ⟨.string,_,_,_,_,_⟩,some ⟨.string,_,_,_,_,_⟩=>match x with
  |.str s=>K (.str s)
  |_=>False
 |_,_=>False
def SF(T:iz)(s:TypeId)(f:Nat):Option (Nat×TypeId×Nat):=
 match T.get s with
 |some ⟨.struct fs,_,_,_,_,_⟩=>fs[f]?
 |_=>none
def Gy(place:Nat->Option (Nat×Nat))(ev:Operand->D):List (Nat×Operand)->List D->(List D->Prop)->Prop
 |[],cs,K=>D.kr cs K
 |(i,x)::ps,cs,K=>match place i with
  |some (off,n)=>cy ((ev x).isVal&&bX (ev x).cells.length n&&gW (off+n) cs.length) (Gy place ev ps (lK cs off (ev x).cells) K)
  |none=>False
def D.SL:D->D|.sl a b _=>.sl a b false|d=>d
def Iz:List D->List D
 |[]=>[]
 |d::l=>d.SL::Iz l
def GA(n len:Nat)(ev:Operand->D):List (Nat×Operand)->List (List D)->(List (List D)->Prop)->Prop
 |[],es,K=>K es
 |(i,x)::ps,es,K=>cy (((ev x).isVal&&(Iz (ev x).cells).all D.plain)&&bX (Iz (ev x).cells).length n&&bN i len) (GA n len ev ps (es.set i (Iz (ev x).cells)) K)
def Au(row:Row):Rows->Nat->(Nat->Rows->Prop)->Prop
 |[],n,K=>K n [some row]
 |x::l,n,K=>Au row l (n+1) λk l=>K k (x::l)
def wy(R:Rows)(row:Row)(K:Nat->Rows->Prop):Prop:=Au row R 0 K
def ints(e:List D)(off:Nat):Nat->List Int
 |0=>[]
 |n+1=>(e.getD off .dead).toInt::ints e (off+1) n
def ah(e:List D)(off:Nat):Nat->List Bool
 |0=>[]
 |n+1=>(e.getD off .dead).toBool::ah e (off+1) n
def DK(k:IntKind)(e:List D)(off:Nat):Nat->Bool
 |0=>true
 |n+1=>(e.getD off .dead).isInt k&&DK k e (off+1) n
def Ip(e:List D)(off:Nat):Nat->Bool
 |0=>true
 |n+1=>(e.getD off .dead).isBool&&Ip e (off+1) n
def Iw(k:IntKind)(l:List Int)(j:Nat):Nat->List D
 |0=>[]
 |n+1=>.int k (l.getD j 0)::Iw k l (j+1) n
def Ix(l:List Bool)(j:Nat):Nat->List D
 |0=>[]
 |n+1=>.bool (l.getD j false)::Ix l (j+1) n
def Aw(T:iz)(t:TypeId)(x:D)(R:Rows)(K:D->Rows->Prop):Prop:=
 match T.get t with
 |none=>False
 |some ti=>match x with
  |.ptr r i off=>match R.getD r none with
   |some ⟨box,_,sz,es⟩=>cy (gW (off+ti.size) sz) (wA (!box) ti (es.get i) off λd=>K d R)
   |none=>False
  |.pa r i off len k n=>match R.getD r none with
   |some ⟨_,_,sz,es⟩=>cy (gW (off+len) sz)<|match ti.kind,k with
    |.int j,some k=>cy (decide (j=k)&&DK k (es.get i) off len) (K (.int k ((ints (es.get i) off len).getD n 0)) R)
    |.bool,none=>cy (Ip (es.get i) off len) (K (.bool ((ah (es.get i) off len).getD n false)) R)
    |_,_=>False
   |none=>False
  |.iu sz es i off=>cy (gW (off+ti.size) sz) (wA true ti (es.get i) off λd=>K d R)
  |_=>False
def Iy(T:iz)(t:TypeId)(x d:D)(R:Rows)(K:D->Rows->Prop):Prop:=
 match T.get t with
 |none=>False
 |some ti=>match x with
  |.ptr r i off=>match R.getD r none with
   |some ⟨box,ty,sz,es⟩=>cy (bN 0 ti.size&&d.isVal&&bX d.cells.length ti.size&&gW (off+ti.size) sz)<|match box with
    |true=>D.kr (lK (es.get i) off d.cells) λe=>uB (R.set r (some ⟨true,ty,sz,.gen [e]⟩)) λR=>K .dead R
    |false=>cy (d.cells.all D.plain) (uB (R.set r (some ⟨false,ty,sz,es.set i (lK (es.get i) off d.cells)⟩)) λR=>K .dead R)
   |none=>False
  |.pa r i off len k n=>match R.getD r none with
   |some ⟨box,ty,sz,es⟩=>cy (box&&gW (off+len) sz)<|match ti.kind,k,d with
    |.int j,some k,.int k' v=>cy (decide (j=k)&&decide (k'=k)&&DK k (es.get i) off len)<|
     D.kr (lK (es.get i) off (Iw k ((ints (es.get i) off len).set n v) 0 len)) λe=>uB (R.set r (some ⟨true,ty,sz,.gen [e]⟩)) λR=>K .dead R
    |.bool,none,.bool v=>cy (Ip (es.get i) off len)<|
     D.kr (lK (es.get i) off (Ix ((ah (es.get i) off len).set n v) 0 len)) λe=>uB (R.set r (some ⟨true,ty,sz,.gen [e]⟩)) λR=>K .dead R
    |_,_,_=>False
   |none=>False
  |_=>False
def W5(T:iz)(t:TypeId)(x:D)(W4:Bool)(n:Int)(R:Rows)(K:D->Rows->Prop):Prop:=
 match T.get t with
 |some ⟨.slice _ iW,_,_,_,_,_⟩=>match x with
  |.sl sz es _=>cy (bX sz iW&&bN 0 iW&&decide (0<=n/\n<es.len)) (K (.iu sz es n.toNat 0) R)
  |.own r o m=>match R.getD r none with
   |some ⟨_,_,sz,_⟩=>cy (bX sz iW&&bN 0 iW&&decide (0<=n/\n<m)) (K (.ptr r (o+n.toNat) 0) R)
   |none=>False
  |.all r=>match R.getD r none with
   |some ⟨_,_,sz,es⟩=>cy (bX sz iW&&bN 0 iW&&decide (0<=n/\n<es.len)) (K (.ptr r n.toNat 0) R)
   |none=>False
  |_=>False
 |some ⟨.array len e iW,_,_,_,_,_⟩=>cy (bN 0 iW&&decide (0<=n/\n<len))<|match x with
  |.ptr r i off=>match W4 with
   |true=>K (.ptr r i (off+n.toNat*iW)) R
   |false=>match T.get e with
    |some ⟨.int k,_,_,_,_,_⟩=>cy (bX iW 1) (K (.pa r i off len (some k) n.toNat) R)
    |some ⟨.bool,_,_,_,_,_⟩=>cy (bX iW 1) (K (.pa r i off len none n.toNat) R)
    |_=>K (.ptr r i (off+n.toNat*iW)) R
  |.iu sz es i off=>K (.iu sz es i (off+n.toNat*iW)) R
  |_=>False
 |_=>False
def sE(x:Option Operand)(ev:Operand->D)(n:Int):Option Int:=match x with|none=>some n|some y=>match ev y with|.int _ m=>some m|_=>none
def NL(T:iz)(t:TypeId)(x:D)(lo hi:Option Operand)(ev:Operand->D)(R:Rows)(K:D->Rows->Prop):Prop:=
 match T.get t with
 |some ⟨.string,_,_,_,_,_⟩=>match x with
  |.str s=>match sE lo ev 0,sE hi ev s.length with
   |some l,some h=>cy (decide (0<=l/\l<=h/\h<=s.length)) (K (.str ((s.drop l.toNat).take (h.toNat-l.toNat))) R)
   |_,_=>False
  |_=>False
 |some ⟨.slice _ iW,_,_,_,_,_⟩=>match x with
  |.sl sz es fr=>match sE lo ev 0,sE hi ev es.len with
   |some l,some h=>cy (bX sz iW&&bN 0 iW&&decide (0<=l/\l<=h/\h<=es.len)) (K (.sl sz ((es.drop l.toNat).take (h.toNat-l.toNat)) fr) R)
   |_,_=>False
  |.all r=>match R.getD r none with
   |some ⟨_,_,sz,es⟩=>match sE lo ev 0,sE hi ev es.len with
    |some l,some h=>cy (bX sz iW&&bN 0 iW&&decide (0<=l/\l<=h/\h<=es.len)) (K (.own r l.toNat (h.toNat-l.toNat)) R)
    |_,_=>False
   |none=>False
  |.own r o n=>match R.getD r none with
   |some ⟨_,_,sz,_⟩=>match sE lo ev 0,sE hi ev n with
    |some l,some h=>cy (bX sz iW&&bN 0 iW&&decide (0<=l/\l<=h/\h<=n)) (K (.own r (o+l.toNat) (h.toNat-l.toNat)) R)
    |_,_=>False
   |none=>False
  |_=>False
 |some ⟨.array len e iW,_,_,_,_,_⟩=>match x,lo,hi with
  |.iu sz es i off,none,none=>match T.get e with
   |some ⟨.int k,_,_,_,_,_⟩=>cy (bX iW 1&&(gW (off+len) sz&&DK k (es.get i) off len)) (K (.sl 1 (.ints k (ints (es.get i) off len)) false) R)
   |_=>False
  |_,_,_=>False
 |_=>False
def wE(T:iz)(t:TypeId)(n m:Int)(R:Rows)(K:D->Rows->Prop):Prop:=
 match T.get t with
 |some ⟨.slice e _,_,_,_,_,_⟩=>match T.get e with
  |some ⟨_,sz,me,_,some z,_⟩=>cy (bN 0 sz&&bX z.length sz&&z.all D.plain&&decide (0<=n/\n<=m/\m<=9223372036854775807/\(me:Int)*m<=140737488355328))
   (wy R ⟨false,e,sz,ag.Gz e n.toNat z⟩ λk R=>K (.all k) R)
  |_=>False
 |_=>False
def tN(T:iz)(t:TypeId)(x:D)(R:Rows)(K:D->Rows->Prop):Prop:=
 match T.get t with
 |some ⟨.string,_,_,_,_,_⟩=>match x with
  |.str s=>K (.int .i64 s.length) R
  |_=>False
 |some ⟨.slice _ _,_,_,_,_,_⟩=>match x with
  |.sl _ es _=>K (.int .i64 es.len) R
  |.own _ _ n=>K (.int .i64 n) R
  |.all r=>match R.getD r none with
   |some ⟨_,_,_,es⟩=>K (.int .i64 es.len) R
   |none=>False
  |.c8=>K (.int .i64 0) R
  |.emp=>K (.int .i64 0) R
  |_=>False
 |_=>False
def NM(T:iz)(t:TypeId)(parts:List (Nat×Operand))(ev:Operand->D)(R:Rows)(K:D->Rows->Prop):Prop:=
 match T.get t with
 |some ⟨.struct fs,_,_,_,some ds,_⟩=>cy (fs.all λf=>bN 0 f.2.2)<|Gy (λi=>(fs[i]?).map λf=>(f.1,f.2.2)) ev parts ds λcs=>K (.agg cs) R
 |some ⟨.array _ _ iW,_,_,_,some ds,_⟩=>cy (bN 0 iW)<|Gy (λi=>some (i*iW,iW)) ev parts ds λcs=>K (.agg cs) R
 |_=>False
def NN(T:iz)(t:TypeId)(len:Nat)(parts:List (Nat×Operand))(ev:Operand->D)(R:Rows)(K:D->Rows->Prop):Prop:=
 match T.get t with
 |some ⟨.slice e _,_,_,_,_,_⟩=>match T.get e with
  |some ⟨_,sz,_,_,some z,_⟩=>cy (bN 0 sz&&bX z.length sz&&gW (len*sz) 16777216&&z.all D.plain)<|
   GA sz len ev parts (cO len z) λes=>match len with|0=>K .emp R|_+1=>K (.sl sz (ag.SN e es) true) R
  |_=>False
 |_=>False
def WU(t:TypeId)(len:Nat):Bool:=gW 2 len&&GK.any λq=>bX q t
def Z5l(T:iz)(t:TypeId)(len:Nat)(parts:List (Nat×Operand))(ev:Operand->D)(R:Rows)(K:D->Rows->Prop):Prop:=
 match T.get t with
 |some ⟨.slice e _,_,_,_,_,_⟩=>match T.get e with
  |some ⟨_,sz,_,_,some z,_⟩=>cy (bN 0 sz&&bX z.length sz&&gW (len*sz) 16777216&&z.all D.plain)<|
   GA sz len ev parts (cO len z) λes=>wy R ⟨false,e,sz,ag.SN e es⟩ λk R=>K (.all k) R
  |_=>False
 |_=>False
def IK(T:iz)(t:TypeId)(len:Nat)(parts:List (Nat×Operand))(ev:Operand->D)(R:Rows)(K:D->Rows->Prop):Prop:=
 AT (WU t len) (Z5l T t len parts ev R K) (NN T t len parts ev R K)
def Iq:iS->Option (Nat×Nat×Nat)|.ptr r i off=>some (r,i,off)|_=>none
def Sx:List iS->Option (List (Nat×Nat×Nat))
 |[]=>some []
 |x::l=>match Iq x,Sx l with|some p,some ps=>some (p::ps)|_,_=>none
def DM:D->Option iS
 |.ptr r i off=>some (.ptr r i off)
 |.int k n=>some (.int k n)
 |.all r=>some (.arr r)
 |.sl a b fr=>some (.sl a b fr)
 |.gv f cs=>match Sx cs with|some ps=>some (.fn f ps)|none=>none
 |_=>none
def LI:List D->Option (List iS)
 |[]=>some []
 |d::l=>match DM d,LI l with|some x,some xs=>some (x::xs)|_,_=>none
def gx(T:iz)(o:Op)(ev:Operand->D)(R:Rows)(K:D->Rows->Prop):Prop:=
 match o with
 |.move x|.assign x=>(ev x).force λd=>K d R
 |.alloc t=>match T.get t with
  |some ⟨_,sz,_,_,some ds,_⟩=>cy (bN 0 sz&&bX ds.length sz) (wy R ⟨true,t,sz,.gen [ds]⟩ λk R=>K (.ptr k 0 0) R)
  |_=>False
 |.box t x=>match T.get t with
  |some ⟨_,sz,_,_,_,_⟩=>cy (bN 0 sz&&(ev x).isVal&&bX (ev x).cells.length sz) (D.kr (ev x).cells λcs=>wy R ⟨true,t,sz,.gen [cs]⟩ λk R=>K (.ptr k 0 0) R)
  |none=>False
 |.build t parts=>NM T t parts.toList ev R K
 |.buildSlice t len parts=>IK T t len parts.toList ev R K
 |.load t a=>Aw T t (ev a) R K
 |.store t a x=>Iy T t (ev a) (ev x) R K
 |.nilCheck x=>match ev x with
  |.ptr a b c=>K (.ptr a b c) R
  |.iu a b c d=>K (.iu a b c d) R
  |_=>False
 |.binOp op t x y _=>tI T op t (ev x) (ev y) λd=>K d R
 |.unOp op _ x=>match op,ev x with
  |.neg,.int k n=>K (.int k (k.wrap (0-n))) R
  |.xor,.int k n=>K (.int k (sn k (if k.signed then-1 else k.max) n)) R
  |.not,.bool b=>K (.bool (!b)) R
  |_,_=>False
 |.convert s d x=>Zj T s d (ev x) λv=>K v R
 |.fieldAddr s x f=>match SF T s f with
  |some (o,_,n)=>cy (bN 0 n)<|match ev x with
   |.ptr r i off=>K (.ptr r i (off+o)) R
   |.iu sz es i off=>K (.iu sz es i (off+o)) R
   |_=>False
  |none=>False
 |.field s x f=>match SF T s f with
  |some (o,t,n)=>match ev x,T.get t with
   |.agg cs,some ti=>cy (bN 0 n&&gW (o+n) cs.length)<|match ti.kind.isAgg with
    |true=>D.kr ((cs.drop o).take n) λl=>K (.agg l) R
    |false=>cy (cs.getD o .dead).wQ ((cs.getD o .dead).force λd=>K d R)
   |_,_=>False
  |none=>False
 |.indexAddr t x ix=>match ev ix with
  |.int _ n=>W5 T t (ev x) (match ix with|.const _=>true|_=>false) n R K
  |_=>False
 |.index t x ix=>match T.get t,ev x,ev ix with
  |some ⟨.string,_,_,_,_,_⟩,.str s,.int _ n=>cy (decide (0<=n/\n<s.length)) (K (.int .u8 ((s.getD n.toNat 0).toNat:Int)) R)
  |some ⟨.array len e iW,_,_,_,_,_⟩,.agg cs,.int _ n=>cy (bX iW 1&&(bX cs.length len&&decide (0<=n/\n<len)))<|match T.get e with
   |some ⟨.int k,_,_,_,_,_⟩=>cy (DK k cs 0 len) (K (.int k ((ints cs 0 len).getD n.toNat 0)) R)
   |some ⟨.bool,_,_,_,_,_⟩=>cy (Ip cs 0 len) (K (.bool ((ah cs 0 len).getD n.toNat false)) R)
   |_=>False
  |_,_,_=>False
 |.extract x i=>match ev x with
  |.dw ds=>cy (ds.getD i .dead).isVal ((ds.getD i .dead).force λd=>K d R)
  |_=>False
 |.slice t x lo hi none=>NL T t (ev x) lo hi ev R K
 |.makeSlice t l c=>match ev l,ev c with
  |.int _ n,.int _ m=>wE T t n m R K
  |_,_=>False
 |.call {callee:=.builtin .len,args,argTypes}=>match args.toList,argTypes.toList with
  |[x],[t]=>tN T t (ev x) R K
  |_,_=>False
 |.makeFunc fn first captured=>match fn with
  |.func f=>cy (bX first.size 0&&bN f YB)<|match LI (captured.toList.map ev)with
   |some cs=>K (.gv f cs) R
   |none=>False
  |_=>False
 |_=>False
def pos(r:Nat):List Nat->Nat->Nat
 |[],k=>k
 |x::l,k=>match bX x r with|true=>k|false=>pos r l (k+1)
def da(r:Nat):List Nat->Bool
 |[]=>false
 |x::l=>match bX x r with|true=>true|false=>da r l
def ri:List Nat->List Nat->Bool
 |[],_=>true
 |x::l,m=>match da x m with|true=>ri l m|false=>false
def rb:List Nat->List Nat->Bool
 |[],_=>true
 |x::l,m=>match da x m with|true=>false|false=>rb l m
def lW:List Nat->List Nat->List Nat
 |ids,[]=>ids
 |ids,x::l=>match da x ids with|true=>lW ids l|false=>lW (ids++[x]) l
def DO:List Nat->Bool
 |[]=>true
 |x::l=>match da x l with|true=>false|false=>DO l
def DH:iS->List Nat|.ptr r _ _=>[r]|.arr r=>[r]|.fn _ ps=>ps.map (·.1)|_=>[]
def r9:List iS->List Nat
 |[]=>[]
 |x::l=>DH x++r9 l
def iS.jB(f:Nat->Nat)(dv:Bool):iS->iS
 |.ptr r i off=>.ptr (f r) i off
 |.int k n=>.int k n
 |.arr r=>.arr (f r)
 |.sl a b fr=>.sl a b (fr&&dv)
 |.fn g ps=>.fn g (ps.map λp=>(f p.1,p.2))
def ou:D->List Nat|.gv _ cs=>r9 cs|.gw r=>[r]|.all r=>[r]|.own r _ _=>[r]|.ptr r _ _=>[r]|.pa r _ _ _ _ _=>[r]|_=>[]
def rO:List D->List Nat
 |[]=>[]
 |d::l=>ou d++rO l
def Gq:D->List Nat|.agg cs=>rO cs|d=>ou d
def D.fg(ks:List Nat):D->D
 |.all r=>match da r ks with|true=>.dead|false=>.all r
 |.own r o n=>match da r ks with|true=>.dead|false=>.own r o n
 |.ptr r i off=>match da r ks with|true=>.dead|false=>.ptr r i off
 |.pa r i off l k n=>match da r ks with|true=>.dead|false=>.pa r i off l k n
 |.gw r=>match da r ks with|true=>.dead|false=>.gw r
 |.gv f cs=>match rb (r9 cs) ks with|true=>.gv f cs|false=>.dead
 |d=>d
def D.jE(ks:List Nat):List D->List D
 |[]=>[]
 |d::l=>d.fg ks::jE ks l
def D.kill(ks:List Nat):D->D
 |.agg cs=>.agg (D.jE ks cs)
 |d=>d.fg ks
def D.rD(ks:List Nat):List D->List D
 |[]=>[]
 |d::l=>d.kill ks::rD ks l
def D.ko(ks:List Nat):D->D
 |.dw ds=>.dw (D.rD ks ds)
 |d=>d.kill ks
def Row.kill(ks:List Nat):Row->Row
 |⟨true,ty,sz,.gen [e]⟩=>⟨true,ty,sz,.gen [D.jE ks e]⟩
 |r=>r
def Qu(ks:List Nat):Rows->Nat->Rows
 |[],_=>[]
 |x::l,i=>(match da i ks with|true=>none|false=>match x with|some row=>some (row.kill ks)|none=>none)::Qu ks l (i+1)
def Hj(ks:List Nat):List (Nat×D)->(List (Nat×D)->Prop)->Prop
 |[],K=>K []
 |(t,d)::l,K=>(d.ko ks).force λd=>Hj ks l λl=>K ((t,d)::l)
def pQ(s:List UInt8):List Int:=s.map λb=>(b.toNat:Int)
def bytesOf(l:List Int):List UInt8:=l.map λn=>UInt8.ofNat n.toNat
def sY(R:Rows):D->Option (Nat×ag)
 |.c8=>some (0,.gen [])
 |.emp=>some (0,.gen [])
 |.sl sz es _=>some (sz,es)
 |.all r=>match R.getD r none with|some ⟨false,_,sz,es⟩=>some (sz,es)|_=>none
 |.own r o n=>match R.getD r none with|some ⟨false,_,sz,es⟩=>some (sz,(es.drop o).take n)|_=>none
 |_=>none
def Dy(R:Rows)(ke kx:TK)(y:D):Option (Nat×ag):=
 match kx with
 |.slice _ _=>sY R y
 |.string=>match ke,y with
  |.int .u8,.str s=>some (1,.ints .u8 (pQ s))
  |_,_=>none
 |_=>none
def Jw:ag->Bool|.gen []=>true|_=>false
def DB(e sz me:Nat)(R:Rows)(ks:List Nat)(es ys:ag)(K:List Nat->D->Rows->Prop):Prop:=
 cy (decide (me*(es.len+ys.len)<=140737488355328))<|uB (Qu ks R 0++[some ⟨false,e,sz,es.app ys⟩]) λR'=>K ks (.all R.length) R'
def Zx (T:iz)(M:Nat)(t tx:TypeId)(x y:D)(R:Rows)(K:List Nat->D->Rows->Prop):Prop:=
  match T.get t with
  | some ⟨.slice e iW,_,_,_,_,_⟩=>match T.get e,T.get tx with
    | some ⟨ke,sz,me,_,some z,_⟩,some ⟨kx,_,_,_,_,_⟩=>match Dy R ke kx y with
      | some (sy,ys)=>cy ((bN 0 sz&&bX iW sz)&&(bX z.length sz&&z.all D.plain)&&(bN 0 me&&(bX sy sz||Jw ys)))<|
        match x with
        | .c8=>DB e sz me R [] (.gen []) ys K
        | .emp=>DB e sz me R [] (.gen []) ys K
        | .all r=>match R.getD r none with
          |some ⟨false,ty,s,es⟩=>cy ((bX s sz&&bX ty e)&&gW M r) (DB e sz me R [r] es ys K)
          |_=>False
        | .own r o n=>match R.getD r none with
          |some ⟨false,ty,s,es⟩=>cy ((bX s sz&&bX ty e)&&(gW M r&&bX o 0)) (DB e sz me R [r] (es.take n) ys K)
          |_=>False
        |_=>False
      |none=>False
    |_,_=>False
  |_=>False
def uO(T:iz)(t tx:TypeId)(x y:D)(R:Rows)(K:D->Rows->Prop):Prop:=
 match T.get t with
 |some ⟨.slice e iW,_,_,_,_,_⟩=>match T.get e,T.get tx with
  |some ⟨ke,sz,_,_,_,_⟩,some ⟨kx,_,_,_,_,_⟩=>match Dy R ke kx y with
   |some (sy,ys)=>cy ((bN 0 sz&&bX iW sz)&&(bX sy sz||Jw ys))<|
    match x with
    |.all r=>match R.getD r none with
     |some ⟨false,ty,s,es⟩=>cy (bX s sz)<|uB (R.set r (some ⟨false,ty,s,(ys.take (min ys.len es.len)).app (es.drop (min ys.len es.len))⟩)) λR'=>K (.int .i64 (min ys.len es.len:Nat)) R'
     |_=>False
    |.own r o n=>match R.getD r none with
     |some ⟨false,ty,s,es⟩=>cy (bX s sz)<|uB (R.set r (some ⟨false,ty,s,((es.take o).app (ys.take (min ys.len n))).app (es.drop (o+min ys.len n))⟩)) λR'=>K (.int .i64 (min ys.len n:Nat)) R'
     |_=>False
    |_=>False
   |none=>False
  |_,_=>False
 |_=>False
inductive Ans where
 |no
 |ok (res:D) (rows:List Row)
 |when (p:Prop) (res:D) (rows:List Row)
 |abs (α:Type) (v:α) (res:α->D) (rows:α->List Row)
 |lX (p:Prop) (α:Type) (v:α) (res:α->D) (rows:α->List Row)
structure bd where
 f:FuncId
 refs:List Bool
 flat:Bool
 m:List D->List Row->Ans
 gone:Option Nat
 pL:Bool
def px:List bd->FuncId->Option bd
 |[],_=>none
 |x::l,f=>match bX x.f f with|true=>some x|false=>px l f
def Zk(R:Rows):D->Option D
 |.bool b=>some (.bool b)
 |.int k n=>some (.int k n)
 |.str s=>some (.str s)
 |.iQ=>some .iQ
 |.j4=>some .j4
 |.c8=>some (.sl 0 (.gen []) false)
 |.emp=>some (.sl 0 (.gen []) false)
 |.sl a b _=>some (.sl a b false)
 |.all r=>match R.getD r none with|some row=>(match row.box with|false=>some (.sl row.sz row.es false)|true=>none)|none=>none
 |.own r o n=>match R.getD r none with|some row=>(match row.box with|false=>some (.sl row.sz ((row.es.drop o).take n) false)|true=>none)|none=>none
 |_=>none
def KB(R:Rows):List D->Option (List D)
 |[]=>some []
 |d::ds=>match Zk R d,KB R ds with|some x,some xs=>some (x::xs)|_,_=>none
def conv(R:Rows):D->Option D
 |.agg cs=>(KB R cs).map .agg
 |d=>Zk R d
def D.na(f:Nat->Nat)(dv:Bool):D->D
 |.all r=>.all (f r)
 |.own r o n=>.own (f r) o n
 |.ptr r i off=>.ptr (f r) i off
 |.pa r i off l k n=>.pa (f r) i off l k n
 |.sl a b fr=>.sl a b (fr&&dv)
 |.gv g cs=>.gv g (cs.map (iS.jB f dv))
 |.gw r=>.gw (f r)
 |d=>d
def D.nb(f:Nat->Nat)(dv:Bool):List D->List D
 |[]=>[]
 |d::l=>d.na f dv::nb f dv l
def D.jB(f:Nat->Nat)(dv:Bool):D->D
 |.agg cs=>.agg (D.nb f dv cs)
 |d=>d.na f dv
def D.Bt(f:Nat->Nat)(dv:Bool):List D->List D
 |[]=>[]
 |d::l=>d.jB f dv::Bt f dv l
def D.tK(f:Nat->Nat)(dv:Bool):D->D
 |.dw ds=>.dw (D.Bt f dv ds)
 |d=>d.jB f dv
def Row.jB(f:Nat->Nat)(dv:Bool):Row->Row
 |⟨true,ty,sz,.gen [e]⟩=>⟨true,ty,sz,.gen [D.nb f dv e]⟩
 |r=>r
def DG(R:Rows):List Nat->List Nat
 |[]=>[]
 |r::l=>(match R.getD r none with|some ⟨true,_,_,.gen [e]⟩=>rO e|_=>[])++DG R l
def DP:List Bool->List D->List Nat
 |true::bs,d::ds=>Gq d++DP bs ds
 |false::bs,_::ds=>DP bs ds
 |_,_=>[]
def mh:List Bool->List D->List Nat
 |true::bs,_::ds=>mh bs ds
 |false::bs,d::ds=>Gq d++mh bs ds
 |[],d::ds=>Gq d++mh [] ds
 |_,[]=>[]
def mZ(R:Rows)(bs:List Bool)(args:List D):List Nat:=
 let a:=lW [] (DP bs args)
 let b:=lW a (DG R a)
 lW b (DG R b)
def BZ(R:Rows)(f:Nat->Nat):List Nat->Option (List Row)
 |[]=>some []
 |r::l=>match R.getD r none,BZ R f l with
  |some row,some rs=>some (row.jB f false::rs)
  |_,_=>none
def tG(R:Rows)(f:Nat->Nat):List Bool->List D->Option (List D)
 |true::bs,d::ds=>match d.isVal,tG R f bs ds with|true,some xs=>some (d.jB f false::xs)|_,_=>none
 |false::bs,d::ds=>match conv R d,tG R f bs ds with|some x,some xs=>some (x::xs)|_,_=>none
 |[],d::ds=>match conv R d,tG R f [] ds with|some x,some xs=>some (x::xs)|_,_=>none
 |_,[]=>some []
def bk(ids:List Nat)(n0 i:Nat):Nat:=match ids[i]? with|some r=>r|none=>n0+(i-ids.length)
def uD(f:Nat->Nat):List Nat->List Row->Rows->Rows
 |r::ids,row::rows,R=>uD f ids rows (R.set r (some (row.jB f true)))
 |_,_,R=>R
def Cd(f:Nat->Nat)(rows:List Row):Rows:=rows.map λrow=>some (row.jB f true)
inductive Ex where
 |normal|exit (id:Nat)|ret
def St.put(N:Nat)(st:St)(dst:Option Tmp)(d:D)(R:Rows)(K:St->Prop):Prop:=
 match dst with
 |none=>K ⟨st.env,R⟩
 |some t=>cy (bN t N) (K ⟨(t,d)::st.env,R⟩)
def St.kh(st:St)(c:Operand)(b:Bool):St:=
 match c with
 |.tmp t=>⟨(t,.bool b)::st.env,st.rows⟩
 |_=>st
def Fe(R:Rows)(ids:List Nat)(res:D)(aj:List Row)(K:D->Rows->Prop):Prop:=
 cy (gW ids.length aj.length)<|(res.tK (bk ids R.length) true).force λres=>
  uB (uD (bk ids R.length) ids aj R++Cd (bk ids R.length) (aj.drop ids.length)) λR=>K res R
def tL(G:List bd)(f:FuncId)(args:List D)(R:Rows)(K:D->Rows->Prop):Prop:=
 match px G f with
 |some x=>
  match tG R (λr=>pos r (mZ R x.refs args) 0) x.refs args,BZ R (λr=>pos r (mZ R x.refs args) 0) (mZ R x.refs args)with
  |some az,some rows=>
   cy ((x.flat&&(match mZ R x.refs args with|[]=>true|_=>false)||(match mh x.refs args with|[]=>true|_=>false))&&
    (ri (DP x.refs args) (mZ R x.refs args)&&ri (DG R (mZ R x.refs args)) (mZ R x.refs args))&&
    (DO (mZ R x.refs args)&&rb (mh x.refs args) (mZ R x.refs args)))<|
   match x.m az rows with
   |.ok res aj=>Fe R (mZ R x.refs args) res aj K
   |.when p res aj=>p/\Fe R (mZ R x.refs args) res aj K
   |.abs _ v res aj=>∀X,X=v->Fe R (mZ R x.refs args) (res X) (aj X) K
   |.lX p _ v res aj=>p/\∀X,X=v->Fe R (mZ R x.refs args) (res X) (aj X) K
   |.no=>False
  |_,_=>False
 |none=>False
def pK(G:List bd)(f:FuncId):Option Nat:=match px G f with|some x=>x.gone|none=>none
def Gn(f:Nat->Nat):List Nat->List Row->Rows->Rows
 |r::ids,row::rows,R=>Gn f ids rows (R.set r (some (row.jB f false)))
 |_,_,R=>R
def Sl(f:Nat->Nat)(rows:List Row):Rows:=rows.map λrow=>some (row.jB f false)
def Ij(R:Rows)(NY gid:List Nat)(res:D)(aj:List Row)(K:List Nat->D->Rows->Prop):Prop:=
 cy (gW NY.length aj.length)<|(res.tK (bk NY R.length) false).force λres=>
  uB (Gn (bk NY R.length) NY aj (Qu gid R 0)++Sl (bk NY R.length) (aj.drop NY.length)) λR=>K gid res R
def Jd(G:List bd)(M:Nat)(f:FuncId)(k:Nat)(args:List D)(R:Rows)(K:List Nat->D->Rows->Prop):Prop:=
 match px G f with
 |some x=>
  match tG R (λr=>pos r (mZ R x.refs args) 0) x.refs args,BZ R (λr=>pos r (mZ R x.refs args) 0) (mZ R x.refs args)with
  |some az,some rows=>
   cy (((match mh x.refs args with|[]=>true|_=>false)&&(match x.refs with|[]=>false|_=>true))&&
    (ri (DP x.refs args) (mZ R x.refs args)&&ri (DG R (mZ R x.refs args)) (mZ R x.refs args))&&
    (DO (mZ R x.refs args)&&((mZ R x.refs args).drop k).all λr=>gW M r))<|
   match x.m az rows with
   |.abs _ v res aj=>∀X,X=v->Ij R ((mZ R x.refs args).take k) ((mZ R x.refs args).drop k) (res X) (aj X) K
   |.lX p _ v res aj=>p/\∀X,X=v->Ij R ((mZ R x.refs args).take k) ((mZ R x.refs args).drop k) (res X) (aj X) K
   |_=>False
  |_,_=>False
 |none=>False
def CE(G:List bd)(f:FuncId):Bool:=match px G f with|some x=>x.pL|none=>false
def DF(G:List bd)(M:Nat)(f:FuncId)(args:List D)(R:Rows)(K:List Nat->D->Rows->Prop):Prop:=
 match px G f with
 |some x=>
  match tG R (λr=>r) [] args,BZ R (λr=>pos r (lW [] (mh [] args)) 0) (lW [] (mh [] args))with
  |some az,some rows=>
   cy (((match x.refs with|[]=>true|_=>false)&&rows.all λr=>!r.box)&&(DO (lW [] (mh [] args))&&(ri (mh [] args) (lW [] (mh [] args))&&(lW [] (mh [] args)).all λr=>gW M r)))<|
   match x.m az []with
   |.abs _ v res aj=>∀X,X=v->Ij R [] (lW [] (mh [] args)) (res X) (aj X) K
   |.lX p _ v res aj=>p/\∀X,X=v->Ij R [] (lW [] (mh [] args)) (res X) (aj X) K
   |_=>False
  |_,_=>False
 |none=>False
def SE:D->Bool|.gv _ _=>false|.gw _=>false|.all _=>false|.own _ _ _=>false|.ptr _ _ _=>false|.pa _ _ _ _ _ _=>false|_=>true
def WZ:List D->Bool
 |[]=>true
 |d::l=>match SE d with|true=>WZ l|false=>false
def tM:D->Bool|.agg cs=>WZ cs|d=>SE d
def W0:List D->Bool
 |[]=>true
 |d::l=>match tM d with|true=>W0 l|false=>false
def wD:D->Bool|.dw ds=>W0 ds|d=>tM d
def NK(R:Rows)(res:D)(aj:List Row)(K:D->Rows->Prop):Prop:=
 match aj with
 |[]=>cy (wD res) (res.force λres=>K res R)
 |_=>(res.tK (bk [] R.length) true).force λres=>uB (R++Cd (bk [] R.length) aj) λR=>K res R
def DR:List Nat->Bool|[]=>true|_=>false
def LC(G:List bd)(f:FuncId)(args:List D)(R:Rows)(K:D->Rows->Prop):Prop:=
 match px G f with
 |some x=>match x.refs with
  |[]=>match tG R (λr=>r) [] args with
   |some az=>cy (x.flat||DR (mh [] args))<|match x.m az []with
    |.ok res aj=>NK R res aj K
    |.when p res aj=>p/\NK R res aj K
    |.abs _ v res aj=>∀X,X=v->NK R (res X) (aj X) K
    |.lX p _ v res aj=>p/\∀X,X=v->NK R (res X) (aj X) K
    |.no=>False
   |none=>False
  |_=>tL G f args R K
 |none=>False
def wY(T:iz)(e d:TypeId)(x:D)(R:Rows)(K:D->Prop):Prop:=
 match T.get e,T.get d with
 |some ⟨.int .u8,_,_,_,_,_⟩,some ⟨.string,_,_,_,_,_⟩=>match sY R x with
  |some (s,es)=>match es.toI .u8 with
   |some l=>cy (bX s 1||Jw es) (K (.str (bytesOf l)))
   |none=>False
  |none=>False
 |_,_=>False
def ag.Nil:ag->Prop
 |.gen es=>es=[]
 |.ints _ l=>l=[]
 |.ah l=>l=[]
 |.ao _ l=>l=[]
def Lz(T:iz)(t:TypeId)(es:ag)(K:D->Prop):Prop:=
 match T.get t with
 |some ⟨.slice _ _,_,_,_,_,_⟩=>K (.nA es)
 |_=>False
def wX(mx:Bool)(x y:D)(K:D->Prop):Prop:=
 match x,y with
 |.int k a,.int k' b=>cy (decide (k=k')) (K (.int k (match mx with|true=>(if b>a then b else a)|false=>(if b<a then b else a))))
 |_,_=>False
def mq(T:iz)(G:List bd)(N M:Nat)(o:Oper)(st:St)(K:St->Prop):Prop:=
  match o.op with
  | .pick c a b=>match cw st.env c with
    | .bool t=>AT t ((cw st.env a).force λd=>st.put N o.dst d st.rows K) ((cw st.env b).force λd=>st.put N o.dst d st.rows K)
    |_=>False
  | .call {callee:= .value (.func f),args, .. }=>match pK G f with
    | none=>match CE G f with
      |false=>LC G f (args.toList.map (cw st.env)) st.rows λd R=>st.put N o.dst d R K
      |true=>DF G M f (args.toList.map (cw st.env)) st.rows λks d R=>Hj ks st.env λenv=>St.put N ⟨env,R⟩ o.dst d R K
    |some k=>cy (bN f YB)<|Jd G M f k (args.toList.map (cw st.env)) st.rows λks d R=>Hj ks st.env λenv=>St.put N ⟨env,R⟩ o.dst d R K
  | .call {callee:= .value (.tmp t),args, .. }=>match look st.env t with
    | .gv f cs=>match pK G f with
      | none=>match CE G f with
        |false=>LC G f (args.toList.map (cw st.env)++cs.map iS.d) st.rows λd R=>st.put N o.dst d R K
        |true=>False
      |some k=>cy (bN f YB||bX args.size 1)<|Jd G M f k (args.toList.map (cw st.env)++cs.map iS.d) st.rows λks d R=>Hj ks st.env λenv=>St.put N ⟨env,R⟩ o.dst d R K
    |_=>False
  | .call {callee:= .builtin .append,args,argTypes}=>match args.toList,argTypes.toList with
    |[x,y],[t,tx]=>Zx T M t tx (cw st.env x) (cw st.env y) st.rows λks d R=>Hj ks st.env λenv=>St.put N ⟨env,R⟩ o.dst d R K
    |_,_=>False
  | .call {callee:= .builtin .copy,args,argTypes}=>match args.toList,argTypes.toList with
    |[x,y],[t,tx]=>uO T t tx (cw st.env x) (cw st.env y) st.rows λd R=>st.put N o.dst d R K
    |_,_=>False
  | .call {callee:= .builtin .min,args, .. }=>match args.toList with
    |[x,y]=>wX false (cw st.env x) (cw st.env y) λd=>st.put N o.dst d st.rows K
    |_=>False
  | .call {callee:= .builtin .max,args, .. }=>match args.toList with
    |[x,y]=>wX true (cw st.env x) (cw st.env y) λd=>st.put N o.dst d st.rows K
    |_=>False
  | .convert s d x=>match T.get s with
    |some ⟨.slice e _,_,_,_,_,_⟩=>wY T e d (cw st.env x) st.rows λd=>st.put N o.dst d st.rows K
    |_=>gx T (.convert s d x) (cw st.env) st.rows λd R=>st.put N o.dst d R K
  | .binOp op t x y ty=>match op,cw st.env x,cw st.env y with
    | .eql, .sl _ es _, .c8=>Lz T t es λd=>st.put N o.dst d st.rows K
    | .eql, .all r, .c8=>match st.rows.getD r none with
      |some ⟨_,_,_,es⟩=>Lz T t es λd=>st.put N o.dst d st.rows K
      |none=>False
    |_,_,_=>gx T (.binOp op t x y ty) (cw st.env) st.rows λd R=>st.put N o.dst d R K
  |op=>gx T op (cw st.env) st.rows λd R=>st.put N o.dst d R K
def mG(T:iz)(G:List bd)(N M:Nat)(ops:Array Oper):List Oper->St->(St->Prop)->Prop
  |[],st,K=>K st
  | o :: l, st,K=>match o.guard with
    |none=>mq T G N M o st λst=>mG T G N M ops l st K
    | some (j,want)=>match(ops[j]?).bind (·.dst) with
      | some g=>match look st.env g with
        | .bool b=>AT b
            (match want with|true=>mq T G N M o (st.kh (.tmp g) true) λst=>mG T G N M ops l st K|false=>(st.kh (.tmp g) true).put N o.dst (.dw []) st.rows λst=>mG T G N M ops l st K)
            (match want with|false=>mq T G N M o (st.kh (.tmp g) false) λst=>mG T G N M ops l st K|true=>(st.kh (.tmp g) false).put N o.dst (.dw []) st.rows λst=>mG T G N M ops l st K)
        | .dw []=>st.put N o.dst (.dw []) st.rows λst=>mG T G N M ops l st K
        |_=>False
      |none=>False
def sN(G:List bd):Op->Bool
 |.store _ _ _=>true
 |.call {callee:=.value (.func f),.. }=>match px G f with|some x=>(match x.refs with|[]=>x.pL|_=>true)|none=>true
 |.call {callee:=.value (.tmp _),.. }=>true
 |.call {callee:=.builtin .append,.. }=>true
 |.call {callee:=.builtin .copy,.. }=>true
 |_=>false
def lO(G:List bd)(o:Op):Bool:=!sN G o
def Cr(G:List bd)(ops:Array Oper)(b:Array Nat)(i j:Nat):Bool:=
 match ops[i]?,ops[j]? with
 |some x,some y=>
  (x.apart ops y||(b.getD j 0).testBit i)&&((lO G x.op&&lO G y.op)||(b.getD j 0).testBit i)
 |_,_=>true
def Zd(G:List bd)(ops:Array Oper):Bool:=
 let b:=Region.before ops
 (cW ops.size).all λj=>(match ops[j]? with|some o=>o.after.all λe=>!Region.binds .any e||bN e.on j|none=>true)&&(cW j).all λi=>Cr G ops b i j
def lM(ops:Array Oper)(i a:Nat):Bool:=(ops.toList.drop i).all λo=>match o.dst with|some d=>!(bX d a)|none=>true
def mz:List Operand->List Nat
 |[]=>[]
 |.tmp a::l=>a::mz l
 |_::l=>mz l
def sk:Op->Option (List Nat)
 |.assign x=>some (mz [x])
 |.move x=>some (mz [x])
 |.extract x _=>some (mz [x])
 |.nilCheck x=>some (mz [x])
 |.fieldAddr _ x _=>some (mz [x])
 |.buildSlice t len parts=>(match WU t len with|true=>none|false=>some (mz (parts.toList.map (·.2))))
 |_=>none
def mi(env:List (Nat×D))(op:Op):Option (List Nat):=
 match sk op with
 |some q=>some q
 |none=>match op with
  |.build _ parts=>some (mz (parts.toList.map (·.2)))
  |.binOp _ _ x y _=>match cw env x with|.int _ _=>some (mz [x,y])|.str _=>some (mz [x,y])|.bool _=>some (mz [x,y])|_=>none
  |.unOp _ _ x=>some (mz [x])
  |.convert _ _ x=>match cw env x with|.int _ _=>some (mz [x])|.str _=>some (mz [x])|_=>none
  |.field _ x _=>some (mz [x])
  |.index _ x y=>some (mz [x,y])
  |.slice _ x (some y) (some z) none=>match cw env x with|.str _=>some (mz [x,y,z])|.sl _ _ _=>some (mz [x,y,z])|_=>none
  |.slice _ x (some y) none none=>match cw env x with|.str _=>some (mz [x,y])|.sl _ _ _=>some (mz [x,y])|_=>none
  |.slice _ x none (some z) none=>match cw env x with|.str _=>some (mz [x,z])|.sl _ _ _=>some (mz [x,z])|_=>none
  |.indexAddr _ x y=>match cw env x with|.sl _ _ _=>some (mz [x,y])|_=>none
  |.load _ x=>match cw env x with|.iu _ _ _ _=>some (mz [x])|_=>none
  |.call {callee:=.builtin .len,args,.. }=>match args.toList with|[x]=>(match cw env x with|.str _=>some (mz [x])|.sl _ _ _=>some (mz [x])|_=>none)|_=>none
  |_=>none
def wK:D->Bool|.ptr _ _ _=>true|_=>false
def KW:D->Bool|.emp=>true|.c8=>true|_=>false
def GL:D->Bool|.int _ _=>true|.str _=>true|.bool _=>true|.sl _ _ _=>true|.emp=>true|.c8=>true|.iQ=>true|_=>false
def wJ:D->Bool|.all _=>true|.int _ _=>true|.str _=>true|.bool _=>true|.sl _ _ _=>true|.iu _ _ _ _=>true|.ptr _ _ _=>true|.emp=>true|.c8=>true|.agg cs=>cs.all GL|_=>false
def Ed(ops:Array Oper)(env:List (Nat×D))(i j:Nat)(op:Op)(l:List Operand):Bool:=
 match op,l with
 |.load _ (.tmp a),.tmp x::_=>lM ops i a&&(lM ops j x&&(wK (look env a)&&KW (look env x)))
 |_,_=>false
def rj:D->Bool|.int _ _=>true|.str _=>true|.bool _=>true|.sl _ _ _=>true|.all _=>true|.agg cs=>cs.all GL|_=>false
def Ee(ops:Array Oper)(env:List (Nat×D))(i:Nat)(op:Op)(dst:Option Nat):Bool:=
 match op,dst with
 |.load _ (.tmp a),some t=>lM ops i a&&(wK (look env a)&&(lM ops (i+1) t&&rj (look env t)))
 |_,_=>false
def NT(G:List bd)(ops:Array Oper)(env:List (Nat×D))(i j:Nat):Bool:=
 match ops[i]?,ops[j]? with
 |some x,some y=>(match x.guard,y.guard,x.op,y.op with
  |none,none,.load _ (.tmp a),.store _ (.tmp b) _=>lM ops i a&&(lM ops j b&&(match look env a,look env b with|.ptr r _ _,.ptr r' _ _=>!(bX r r')|.iu _ _ _ _,.ptr _ _ _=>true|_,_=>false))
  |none,none,op,.store _ (.tmp b) _=>(match mi env op with|some q=>(q.all λa=>lM ops i a)&&(lM ops j b&&(match look env b with|.ptr _ _ _=>true|_=>false))|none=>false)
  |none,none,op,.call {callee:=.value (.func f),.. }=>(match(match pK G f with|some _=>true|none=>CE G f)with|true=>false|false=>match mi env op with|some q=>q.all λa=>lM ops i a|none=>false)
  |none,none,op,.call {callee:=.builtin .append,args,.. }=>(match mi env op with|some q=>(q.all λa=>lM ops i a&&wJ (look env a))&&(match x.dst with|some t=>lM ops (i+1) t&&wJ (look env t)|none=>true)|none=>Ed ops env i j op args.toList||Ee ops env i op x.dst)
  |_,_,_,_=>false)
 |_,_=>false
def wM(ops:Array Oper)(j:Nat):Bool:=
 match ops[j]? with
 |some y=>match y.guard,y.op with
  |none,.alloc _=>(match y.dst with|none=>true|some u=>(cW ops.size).all λk=>bX k j||(match(ops[k]?).bind (·.dst)with|some d=>!(bX d u)|none=>true))
  |_,_=>false
 |none=>false
def AD(G:List bd)(ops:Array Oper)(env:List (Nat×D))(b:Array Nat)(i j:Nat):Bool:=
 match ops[i]?,ops[j]? with
 |some x,some y=>
  (x.apart ops y||(b.getD j 0).testBit i)&&((lO G x.op&&lO G y.op)||(b.getD j 0).testBit i||(NT G ops env i j||wM ops j))
 |_,_=>true
def S6(G:List bd)(ops:Array Oper)(env:List (Nat×D)):Bool:=
 let b:=Region.before ops
 (cW ops.size).all λj=>(match ops[j]? with|some o=>o.after.all λe=>!Region.binds .any e||bN e.on j|none=>true)&&(cW j).all λi=>AD G ops env b i j
def IS(x:Nat):List Nat->Nat->List Nat
 |l,0=>x::l
 |[],_=>[x]
 |y::l,n+1=>y::IS x l n
def Eo(m:Nat):List Nat->Nat->Nat->Nat
 |[],_,r=>r
 |y::l,k,r=>Eo m l (k+1) (match m.testBit y with|true=>k+1|false=>r)
def Ep:List Oper->Bool
 |[]=>false
 |o::l=>match o.op with|.buildSlice _ 0 _=>true|_=>Ep l
def GV(e e2:Bool)(op:Op):Bool:=match sk op with|some _=>true|none=>(match op with|.load _ _=>e|.slice _ _ _ _ _=>e2|.binOp _ _ _ _ _=>e2|_=>false)
def Er(e e2:Bool)(ops:Array Oper)(b:Array Nat):List Nat->List Nat->List Nat
 |[],acc=>acc
 |j ::js,acc=>Er e e2 ops b js (match ops[j]? with
  |some o=>(match o.guard with
   |none=>(match GV e e2 o.op with|true=>IS j acc (Eo (b.getD j 0) acc 0 0)|false=>acc++[j])
   |some _=>acc++[j])
  |none=>acc)
def TL(ops:Array Oper)(b:Array Nat):Bool:=
 (cW ops.size).any λj=>(match ops[j]? with|some y=>(match y.op with|.load _ _=>true|_=>false)|none=>false)&&(cW j).any λi=>(match ops[i]? with|some x=>(match x.op with|.call {callee:=.builtin .append,.. }=>true|_=>false)|none=>false)&&!((b.getD j 0).testBit i)
def TM(ops:Array Oper)(b:Array Nat):Bool:=
 (cW ops.size).any λj=>(match ops[j]? with|some y=>(match y.op with|.slice _ _ _ _ _=>true|_=>false)|none=>false)&&(cW j).any λi=>(match ops[i]? with|some x=>(match x.op with|.call {callee:=.builtin .append,.. }=>true|_=>false)|none=>false)&&!((b.getD j 0).testBit i)
def Xz(ops:Array Oper):List Nat:=Er (Ep ops.toList||TL ops (Region.before ops)) (TM ops (Region.before ops)) ops (Region.before ops) (cW ops.size) []
def Xk(p:List Nat)(n:Nat):Bool:=bX p.length n&&(((cW n).all λi=>da i p)&&((p.all λi=>bN i n)&&DO p))
def Eh(p:List Nat)(e:Edge):Edge:=⟨pos e.on p 0,e.ground⟩
def NV(p:List Nat)(o:Oper):Oper:=⟨o.dst,o.op,o.type,o.pos,o.after.map (Eh p),match o.guard with|none=>none|some (j,w)=>some (pos j p 0,w)⟩
def nX(p:List Nat)(ops:Array Oper):Array Oper:=(p.map λi=>NV p (ops.getD i default)).toArray
def wG(T:iz)(G:List bd)(N M:Nat)(ops:Array Oper)(st:St)(Q:Ex->St->Prop):Prop:=
 match Zd G ops with
 |true=>mG T G N M ops ops.toList st λst=>Q .normal st
 |false=>cy (Xk (Xz ops) ops.size)<|mG T G N M (nX (Xz ops) ops) (nX (Xz ops) ops).toList st λst=>cy (S6 G (nX (Xz ops) ops) st.env) (Q .normal st)
def IB(i n:Nat):List D->Option (List D)
 |[]=>none
 |d::l=>match d,l with
  |.iQ,.c8::m=>some (.gw i:: .all n::m)
  |d,l=>match IB i n l with|some l'=>some (d::l')|none=>none
def TN(T:iz)(t:TypeId):Bool:=match T.get t with|some ⟨_,_,_,_,some ds,_⟩=>(match IB 0 0 ds with|some _=>true|none=>false)|_=>false
def wR(T:iz):List Oper->Bool
 |[]=>false
 |o::l=>match o.op with|.alloc t=>(match TN T t with|true=>true|false=>wR T l)|_=>wR T l
def TO:iz->Option TypeId
 |[]=>none
 |(u,i)::l=>match i.kind with|.int .u8=>some u|_=>TO l
def Jaw(T:iz):Code->Option TypeId
 |.region _ ops _=>(match wR T ops.toList with|true=>TO T|false=>none)
 |_=>none
def KI(n:Nat):Rows->Nat->Option (Nat×TypeId×Nat×List D)
 |[],_=>none
 |x::l,i=>match x with
  |some ⟨true,ty,sz,.gen [e]⟩=>(match IB i n e with|some e'=>some (i,ty,sz,e')|none=>KI n l (i+1))
  |_=>KI n l (i+1)
def KJ(T:iz)(a:Code)(st:St)(K:St->Prop):Prop:=
 match Jaw T a with
 |none=>K st
 |some u=>match KI st.rows.length st.rows 0 with
  |none=>K st
  |some (i,ty,sz,e)=>D.kr e λe=>uB (st.rows.set i (some ⟨true,ty,sz,.gen [e]⟩)++[some ⟨false,u,1,.ints .u8 []⟩]) λR=>K ⟨st.env,R⟩
def D.CG(R:Rows)(ks:List Nat):D->D
 |.all r=>match da r ks with
  |true=>(match R.getD r none with|some ⟨false,_,sz,es⟩=>.sl sz es false|_=>.dead)
  |false=>.all r
 |.ptr r i off=>match da r ks with
  |true=>(match R.getD r none with|some ⟨true,_,sz,.gen [e]⟩=>(match e.all D.plain with|true=>.iu sz (.gen [e]) i off|false=>.dead)|_=>.dead)
  |false=>.ptr r i off
 |d=>d.fg ks
def D.sZ(R:Rows)(ks:List Nat):List D->List D
 |[]=>[]
 |d::l=>d.CG R ks::sZ R ks l
def D.Jh(R:Rows)(ks:List Nat):D->D
 |.agg cs=>.agg (D.sZ R ks cs)
 |d=>d.CG R ks
def D.Ji(R:Rows)(ks:List Nat):List D->List D
 |[]=>[]
 |d::l=>d.Jh R ks::Ji R ks l
def D.CH(R:Rows)(ks:List Nat):D->D
 |.dw ds=>.dw (D.Ji R ks ds)
 |d=>d.Jh R ks
def Row.mP(R:Rows)(ks:List Nat):Row->Row
 |⟨true,ty,sz,.gen [e]⟩=>⟨true,ty,sz,.gen [D.sZ R ks e]⟩
 |r=>r
def LG(R0:Rows)(ks:List Nat):Rows->Nat->Rows
 |[],_=>[]
 |x::l,i=>(match da i ks with|true=>none|false=>match x with|some row=>some (row.mP R0 ks)|none=>none)::LG R0 ks l (i+1)
def Fw(R:Rows)(ks:List Nat):List (Nat×D)->(List (Nat×D)->Prop)->Prop
 |[],K=>K []
 |(t,d)::l,K=>(d.CH R ks).force λd=>Fw R ks l λl=>K ((t,d)::l)
def Es:List D->List Nat
 |[]=>[]
 |d::l=>(match d with|.all r=>[r]|_=>[])++Es l
def TP:D->List Nat|.agg cs=>Es cs|.all r=>[r]|_=>[]
def GW(R:Rows)(n:Nat)(d:D):List Nat:=
 match d with
 |.ptr r _ off=>match R.getD r none with|some ⟨true,_,_,.gen [e]⟩=>Es ((e.drop off).take n)|_=>[]
 |_=>[]
def IT:List (Nat×List Nat)->Nat->Option (List Nat)
 |[],_=>none
 |(u,x)::l,t=>match bX u t with|true=>some x|false=>IT l t
def NZ(env:List (Nat×D)):List (Nat×D)->Nat->D
 |[],t=>look env t
 |(u,x)::l,t=>match bX u t with|true=>x|false=>NZ env l t
def wS(env:List (Nat×D))(acc:List (Nat×List Nat)):Operand->List Nat
 |.tmp t=>match IT acc t with|some l=>l|none=>TP (look env t)
 |_=>[]
def AH(env:List (Nat×D))(acc:List (Nat×List Nat)):List Operand->List Nat
 |[]=>[]
 |x::l=>wS env acc x++AH env acc l
def Lf(T:iz)(env:List (Nat×D))(R:Rows)(acc:List (Nat×List Nat))(pa:List (Nat×D))(o:Oper):List (Nat×List Nat):=
 match o.dst with
 |none=>acc
 |some t=>match o.op with
  |.load ty (.tmp p)=>(t,GW R (match T.get ty with|some i=>i.size|none=>0) (NZ env pa p))::acc
  |.move x=>(t,wS env acc x)::acc
  |.slice _ x _ _ _=>(t,wS env acc x)::acc
  |_=>acc
def Lg(T:iz)(env:List (Nat×D))(pa:List (Nat×D))(o:Oper):List (Nat×D):=
 match o.dst with
 |none=>pa
 |some t=>match o.op with
  |.fieldAddr s (.tmp p) f=>(match SF T s f with|some (k,_,_)=>(match NZ env pa p with|.ptr r i off=>(t,.ptr r i (off+k))::pa|_=>pa)|none=>pa)
  |.move (.tmp p)=>(t,NZ env pa p)::pa
  |.nilCheck (.tmp p)=>(t,NZ env pa p)::pa
  |_=>pa
def Lh(G:List bd)(f:FuncId):Bool:=match px G f with|some x=>x.pL||(match x.refs with|[]=>!x.flat|_=>false)|none=>false
def TQ(T:iz)(env:List (Nat×D))(pa:List (Nat×D))(t:TypeId)(p:Nat):List Nat:=
 match T.get t with
 |some ⟨.array _ _ _,_,_,_,_,_⟩=>(match NZ env pa p with|.ptr r _ _=>[r]|_=>[])
 |_=>[]
def UM(T:iz)(G:List bd)(env:List (Nat×D))(R:Rows):List (Nat×List Nat)->List (Nat×D)->List Oper->List Nat
 |_,_,[]=>[]
 |acc,pa,o::l=>(match o.op with|.call {callee:=.value (.func f),args,.. }=>(match Lh G f with|true=>AH env acc args.toList|false=>[])|.slice t (.tmp p) _ _ _=>TQ T env pa t p|_=>[])++UM T G env R (Lf T env R acc pa o) (Lg T env pa o) l
def uZ(M:Nat)(R:Rows):List Nat->List Nat
 |[]=>[]
 |r::l=>match gW M r&&(match R.getD r none with|some ⟨false,_,_,_⟩=>true|some ⟨true,_,_,.gen [e]⟩=>e.all D.plain|_=>false)with|true=>r::uZ M R l|false=>uZ M R l
def Jj(T:iz)(G:List bd)(M:Nat)(ops:Array Oper)(st:St)(K:St->Prop):Prop:=
 match uZ M st.rows (UM T G st.env st.rows [] [] ops.toList)with
 |[]=>K st
 |ks=>Fw st.rows ks st.env λenv=>uB (LG st.rows ks st.rows 0) λR=>K ⟨env,R⟩
def u0(T:iz)(R:Rows)(i:Nat):Option (TypeId×Nat×TypeId×Nat):=
 match R.getD i none with
 |some ⟨true,ty,sz,.gen [[d]]⟩=>(match d with
  |.c8=>(match T.get ty with|some ⟨.slice e n,_,_,_,_,_⟩=>(match bN 0 n with|true=>some (ty,sz,e,n)|false=>none)|_=>none)
  |.emp=>(match T.get ty with|some ⟨.slice e n,_,_,_,_,_⟩=>(match bN 0 n with|true=>some (ty,sz,e,n)|false=>none)|_=>none)
  |_=>none)
 |_=>none
def Jk(T:iz):List iS->List (Nat×D)->Rows->(Rows->Prop)->Prop
 |[],_,R,K=>K R
 |.ptr i _ _::l,env,R,K=>(match u0 T R i with
  |some (ty,sz,e,n)=>wy R ⟨false,e,n,.gen []⟩ λk R=>uB (R.set i (some ⟨true,ty,sz,.gen [[.all k]]⟩)) λR=>Jk T l env R K
  |none=>Jk T l env R K)
 |_::l,env,R,K=>Jk T l env R K
def XA(env:List (Nat×D)):List Operand->List iS
 |[]=>[]
 |.tmp t::l=>(match look env t with|.ptr i o f=>.ptr i o f::XA env l|_=>XA env l)
 |_::l=>XA env l
def AI(env:List (Nat×D)):List Oper->List iS
 |[]=>[]
 |o::l=>(match o.op with|.makeFunc _ _ captured=>XA env captured.toList|_=>[])++AI env l
def splitAt:List (Nat×Nat)->Nat->Option Nat
 |[],_=>none
 |(g,i)::l,f=>match bX g f with|true=>some i|false=>splitAt l f
def Zw2:List (Nat×Operand)->Nat->Operand
 |[],t=>.tmp t
 |(s,x)::l,t=>match bX s t with|true=>x|false=>Zw2 l t
def XB:List (Nat×Operand)->List Oper->Option Operand
 |_,[]=>none
 |mv,o::l=>match o.op with
  |.call {callee:=.value (.func f),args,.. }=>(match splitAt splits f with
   |some i=>(match args.toList[i]? with|some (.tmp t)=>some (Zw2 mv t)|_=>none)
   |none=>XB mv l)
  |.move x=>XB (match o.dst with|some t=>(t,x)::mv|none=>mv) l
  |_=>XB mv l
def wH(ops:List Oper)(st:St)(K:St->Prop):Prop:=
 match XB [] ops with
 |none=>K st
 |some x=>match cw st.env x with
  |.bool t=>AT t (K (st.kh x true)) (K (st.kh x false))
  |_=>K st
def pM(T:iz)(G:List bd)(N M:Nat)(L:Code->St->(Ex->St->Prop)->Prop):Code->St->(Ex->St->Prop)->Prop
 |.skip,st,Q=>Q .normal st
 |.label _,st,Q=>Q .normal st
 |.region _ ops draw,st,Q=>wH ops.toList st λst=>Jk T (AI st.env ops.toList) st.env st.rows λR=>Jj T G M ops ⟨st.env,R⟩ λst=>match draw with|true=>wG T G N M ops st Q|false=>mG T G N M ops ops.toList st λst=>Q .normal st
 |.seq a b,st,Q=>pM T G N M L a st λe st=>match e with|.normal=>KJ T a st λst=>pM T G N M L b st Q|.exit i=>Q (.exit i) st|.ret=>Q .ret st
 |.cond c a b,st,Q=>match cw st.env c with
  |.bool t=>AT t (pM T G N M L a (st.kh c true) Q) (pM T G N M L b (st.kh c false) Q)
  |.nA es=>(es.Nil->pM T G N M L a (st.kh c true) Q)/\pM T G N M L b (st.kh c false) Q
  |_=>False
 |.block id c,st,Q=>pM T G N M L c st λe st=>match e with|.normal=>Q .normal st|.exit i=>(match bX i id with|true=>Q .normal st|false=>Q (.exit i) st)|.ret=>Q .ret st
 |.exit id,st,Q=>Q (.exit id) st
 |.ret,st,Q=>Q .ret st
 |.scope c,st,Q=>pM T G N M L c st Q
 |c,st,Q=>L c st Q
def GH(T:iz)(R:Rows)(env:List (Nat×D)):List ResultVar->(List D->Prop)->Prop
 |[],K=>K []
 |.tmp t::l,K=>(look env t).force λd=>cy d.isVal (GH T R env l λds=>K (d::ds))
 |.cell a t::l,K=>Aw T t (look env a) R λd _=>cy d.isVal (GH T R env l λds=>K (d::ds))
def kD(ex:List Nat)(i r:Nat):Bool:=match ex[i]? with|some x=>bX x r|none=>false
def LM(ex:List Nat)(r:Nat):Bool:=ex.all λx=>!(bX x r)
def Jz(ex:List Nat)(R:Rows)(i:Nat):Bool:=match ex[i]? with|some r=>(match R.getD r none with|none=>true|some _=>false)|none=>false
def ag.Eq:ag->ag->Prop
 |.ints k l,.ints k' m=>match decide (k=k')with|true=>l=m|false=>(ag.ints k l).l=(ag.ints k' m).l
 |.ah l,.ah m=>l=m
 |.gen es,.gen fs=>es=fs
 |.gen [],.ints _ m=>m=[]
 |.gen [],.ah m=>m=[]
 |.gen [],.ao _ m=>m=[]
 |.ao k l,.ao k' m=>(match Ha k k' l with|some l'=>l'=m|none=>(ag.ao k l).l=(ag.ao k' m).l)
 |E,F=>E.l=F.l
theorem ag.AU{E F:ag}(h:ag.Eq E F):E.l=F.l:=by
 cases E with
 |gen es=>
  cases es with
  |nil=>cases F<;>simp_all [ag.Eq,ag.l]
  |cons e es=>cases F<;>simp_all [ag.Eq,ag.l]
 |ints k l=>
  cases F with
  |ints k' m=>
   simp only[ag.Eq]at h
   split at h
   ·rename_i hk;subst h;rw[oY hk]
   ·exact h
  |_=>exact h
 |ah l=>
  cases F with
  |ah m=>simp only[ag.Eq]at h;rw[h]
  |_=>exact h
 |ao k l=>
  cases F with
  |ao k' m=>
   simp only[ag.Eq]at h
   split at h
   ·rename_i l' hc
    obtain⟨e,hm⟩:=Ys hc
    subst e
    simp only at hm
    rw[<-h,<-hm]
   ·exact h
  |_=>exact h
theorem ag.oR{E:ag}:E.Nil↔E.l=[]:=by
 cases E<;>simp[ag.Nil,ag.l]
def tj(ex:List Nat):List (Nat×Nat×Nat)->List (Nat×Nat×Nat)->Bool
 |[],[]=>true
 |(i,b,c)::l,(r,y,z)::m=>kD ex i r&&(bX b y&&(bX c z&&tj ex l m))
 |_,_=>false
def pN(ex:List Nat):List iS->List iS->Bool
 |[],[]=>true
 |.ptr i b c::l,.ptr r y z::m=>kD ex i r&&(bX b y&&(bX c z&&pN ex l m))
 |.fn f ps::l,.fn g qs::m=>bX f g&&(tj ex ps qs&&pN ex l m)
 |_,_=>false
def iZ(ex:List Nat)(m:Nat)(R:Rows)(d p:D):Prop:=
 match p with
 |.int k n=>match d with|.int j q=>cy (decide (j=k)) (q=n)|_=>False
 |.bool b=>match d with|.bool a=>a=b|_=>False
 |.str s=>match d with|.str u=>u=s|_=>False
 |.iQ=>match d with|.iQ=>True|_=>False
 |.j4=>match d with|.j4=>True|_=>False
 |.gv f cs=>match d with|.gv g ds=>cy (bX f g&&pN ex cs ds) True|_=>False
 |.ptr i o f=>match d with|.ptr r o' f'=>cy (kD ex i r&&(bX o o'&&bX f f')) True|_=>False
 |.gw i=>match d with|.iQ=>True|.gw r=>cy (kD ex i r) True|.ptr r o f=>cy (kD ex i r&&(bX o 0&&bX f 0)) True|_=>False
 |.c8=>match d with|.c8=>True|_=>False
 |.emp=>match d with|.c8=>True|.emp=>True|_=>False
 |.sl sz es fr=>match d with
  |.c8=>es.Nil
  |.emp=>es.Nil
  |.sl kC jl fr'=>cy (!fr||fr') ((jl.Nil\/kC=sz)/\ag.Eq jl es)
  |.all r=>match R.getD r none with
   |some ⟨box,_,kC,jl⟩=>cy (!box&&bX kC sz&&LM ex r&&gW m r) (ag.Eq jl es)
   |none=>False
  |.own r o n=>match R.getD r none with
   |some ⟨box,_,kC,jl⟩=>cy (!box&&bX kC sz&&LM ex r&&gW m r) (ag.Eq ((jl.drop o).take n) es)
   |none=>False
  |_=>False
 |.all i=>match d with|.all r=>cy (kD ex i r) True|.c8=>cy (Jz ex R i) True|.emp=>cy (Jz ex R i) True|_=>False
 |.own i o n=>match d with|.own r o' n'=>cy (kD ex i r) (o'=o/\n'=n)|_=>False
 |.dead=>cy d.ID True
 |_=>False
def EE(ex:List Nat)(m:Nat)(R:Rows):List D->List D->Prop
 |[],[]=>True
 |d::ds,p::ps=>iZ ex m R d p/\EE ex m R ds ps
 |_,_=>False
def pO(ex:List Nat)(m:Nat)(R:Rows)(d p:D):Prop:=
 match p with
 |.agg ps=>match d with|.agg ds=>EE ex m R ds ps|_=>False
 |p=>iZ ex m R d p
def w9(ex:List Nat)(m:Nat)(R:Rows):List D->List D->Prop
 |[],[]=>True
 |d::ds,p::ps=>pO ex m R d p/\w9 ex m R ds ps
 |_,_=>False
def te(ex:List Nat)(m:Nat)(R:Rows)(d p:D):Prop:=
 match p with
 |.dw ps=>match d with|.dw ds=>w9 ex m R ds ps|_=>False
 |p=>pO ex m R d p
def mr(ex:List Nat)(m:Nat)(R:Rows):List Nat->List Row->Prop
 |[],[]=>True
 |r ::rs,⟨box,ty,sz,es⟩::ps=>(match R.getD r none with
  |some ⟨AX,kg,kC,jl⟩=>cy (Bool.xor (!box) AX&&bX ty kg&&bX sz kC) (match box with
   |false=>ag.Eq jl es
   |true=>match jl,es with|.gen [e'],.gen [e]=>EE ex m R e' e|_,_=>False)
  |none=>cy (!box&&bN 0 sz) es.Nil)/\mr ex m R rs ps
 |_,_=>False
def IU(R:Rows)(p d:D):List (Nat×Nat):=
 match p with
 |.all i=>match d with|.all r=>[(i,r)]|_=>[]
 |_=>[]
def IV(R:Rows):List D->List D->List (Nat×Nat)
 |p::ps,d::ds=>IU R p d++IV R ps ds
 |_,_=>[]
def Kq(R:Rows)(p d:D):List (Nat×Nat):=
 match p with
 |.agg ps=>match d with|.agg ds=>IV R ps ds|_=>[]
 |p=>IU R p d
def newAt(n0:Nat):List (Nat×Nat)->Nat->Nat
 |[],i=>n0+i
 |(j,r)::l,i=>match bX j i with|true=>r|false=>newAt n0 l i
def news(n0:Nat)(l:List (Nat×Nat)):Nat->Nat->List Nat
 |_,0=>[]
 |i,n+1=>newAt n0 l i::news n0 l (i+1) n
def NP:List Nat->List Nat->Bool
 |[],[]=>true
 |x::l,y::m=>bX x y&&NP l m
 |_,_=>false
def th(M:Nat)(ex:List Nat):Bool:=(NP (ex.take M) (cW M)&&(ex.drop M).all λr=>gW M r)&&DO (ex.drop M)
def AZ(m:Nat)(res:D)(rows:List Row)(d:D)(R:Rows):Prop:=
 ∃ex,th m ex=true/\te ex m R d res/\mr ex m R ex rows
def GG:List D->Nat->List (Nat×D)
 |[],_=>[]
 |d::ds,i=>(i,d)::GG ds (i+1)
def ky(T:iz)(G:List bd)(L:Code->St->(Ex->St->Prop)->Prop)(fn:Func)(args:List D)(rows:List Row)(Q:D->Rows->Prop):Prop:=
 match fn.body with
 |some c=>pM T G fn.ntmps rows.length L c ⟨GG args 0,rows.map some⟩ λe st=>match e with
  |.exit _=>False
  |_=>GH T st.rows st.env fn.results.toList λds=>match ds with|[d]=>Q d st.rows|ds=>Q (.dw ds) st.rows
 |none=>False
def o9:List Nat->List D->List (Nat×D)
 |t::ts,d::ds=>(t,d)::o9 ts ds
 |_,_=>[]
def Bo:List iS->List Nat
 |[]=>[]
 |.fn f _::l=>f::Bo l
 |_::l=>Bo l
def Bp:D->List Nat|.gv f cs=>f::Bo cs|_=>[]
def sd:List D->List Nat
 |[]=>[]
 |d::l=>Bp d++sd l
def Gr:D->List Nat|.agg cs=>sd cs|d=>Bp d
def o6:List D->List Nat
 |[]=>[]
 |d::l=>Gr d++o6 l
def DI:D->List Nat|.dw ds=>o6 ds|d=>Gr d
def kY:List Row->List Nat
 |[]=>[]
 |⟨true,_,_,.gen [e]⟩::l=>sd e++kY l
 |_::l=>kY l
def Hk:Rows->List Nat
 |[]=>[]
 |some r::l=>kY [r]++Hk l
 |none::l=>Hk l
def rW(l:List Nat):Bool:=l.all λf=>bN f YB
def AV:List (Nat×D)->List Nat
 |[]=>[]
 |(_,d)::l=>DI d++AV l
def GJ (T:iz)(G:List bd)(L:Code->St->(Ex->St->Prop)->Prop)(fn:Func)(args:List D)(rows:List Row)(Q:D->Rows->Prop)(M:Nat):Prop:=
 match fn.body with
 |some c =>match gW YB fn.nfree with
  |true =>match bX fn.nfree YB with
   |true=>pM T G fn.ntmps M L c ⟨o9 fn.params.toList args,rows.map some⟩ λe st=>match e with
    |.normal=>Q (.bool true) st.rows
    |_=>False
   |false=>match c with
    |.seq a b=>pM T G fn.ntmps M L a ⟨o9 fn.params.toList args,rows.map some⟩ λe st=>match e with
     |.normal=>cy (rW (AV st.env++Hk st.rows)) (pM T G fn.ntmps M L b st λe st=>match e with
      |.normal=>Q (.bool true) st.rows
      |_=>False)
     |_=>False
    |_=>False
  |false=>pM T G fn.ntmps M L c ⟨GG args 0,rows.map some⟩ λe st=>match e with
  |.exit _=>False
  |_=>GH T st.rows st.env fn.results.toList λds=>match ds with|[d]=>Q d st.rows|ds=>Q (.dw ds) st.rows
 |none=>False
