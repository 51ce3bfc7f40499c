import Derived.Test.YthjfindbamdacaaGreatDoorAuditTellsFy
open Nat renaming beq->bT,blt->bJ,ble->gT
open BitVec renaming ofInt->dV
open List renaming range->dB
set_option linter.all false
namespace Go.GD
open Go
def cw(b:Bool)(p:Prop):Prop:=match b with|true=>p|false=>False
def DX(b:Bool)(p q:Prop):Prop:=match b with|true=>p|false=>q
theorem c9{b:Bool}{p:Prop}:cw b p↔b=true/\p:=by cases b<;>simp[cw]
theorem Zg0{b:Bool}{p q:Prop}:DX b p q↔(b=true->p)/\(b=false->q):=by cases b<;>simp[DX]
abbrev Rows:=List (Option Row)
namespace D
def FV(n:Nat):D->Bool|.sl m _ _=>bT m n|.du=>true|.emp=>true|_=>false
def toEs:D->ai|.sl _ es _=>es|_=>.gen []
def wh:D->Bool|.agg _=>false|.dt _=>false|.dead=>false|_=>true
def isVal:D->Bool|.dt _=>false|.dead=>false|_=>true
def HN:D->Bool|.agg _=>false|.dt _=>false|_=>true
def plain:D->Bool|.bool _=>true|.int _ _=>true|.str _=>true|.iQ=>true|.du=>true|.emp=>true|.sl _ _ _=>true|_=>false
def cells:D->List D|.agg cs=>cs|d=>[d]
def force:D->(D->Prop)->Prop
 |.bool b,K=>K (.bool b)
 |.int k n,K=>K (.int k n)
 |.str s,K=>K (.str s)
 |.sl a b c,K=>K (.sl a b c)
 |.all a,K=>K (.all a)
 |.own a b c,K=>K (.own a b c)
 |.ptr a b c,K=>K (.ptr a b c)
 |.pa a b c d e f,K=>K (.pa a b c d e f)
 |.iw a b c d,K=>K (.iw a b c d)
 |.iQ,K=>K .iQ
 |.du,K=>K .du
 |.emp,K=>K .emp
 |.rk es,K=>K (.rk es)
 |.dead,K=>K .dead
 |.gj a b,K=>K (.gj a b)
 |.c8 a,K=>K (.c8 a)
 |.jQ,K=>K .jQ
 |.agg a,K=>K (.agg a)
 |.dt a,K=>K (.dt a)
end D
def D.j4:List D->(List D->Prop)->Prop
 |[],K=>K []
 |d::l,K=>d.force λd=>j4 l λl=>K (d::l)
def tW:Rows->(Rows->Prop)->Prop
 |[],K=>K []
 |d::l,K=>tW l λl=>K (d::l)
inductive rm where
 |int (k:IntKind)|bool|str|sl (n:Nat)|other
inductive TK where
 |int (k:IntKind)|bool|string
 |slice (e:TypeId) (n:Nat)
 |struct (fs:List (Nat×TypeId×Nat))
 |array (len:Nat) (e:TypeId) (n:Nat)
 |other
structure TI where
 kind:TK
 size:Nat
 bytes:Nat
 s9:List rm
 zero:Option (List D)
 eq:Bool
abbrev fj:=List (TypeId×TI)
def fj.get:fj->TypeId->Option TI
 |[],_=>none
 |(u,i)::l,t=>match bT u t with|true=>some i|false=>fj.get l t
def TK.isAgg:TK->Bool|.struct _=>true|.array _ _ _=>true|_=>false
def uV(pl:Bool):rm->D->(D->Prop)->Prop
 |.int k,c,K=>cw (c.isInt k) (K (.int k c.toInt))
 |.bool,c,K=>cw c.isBool (K (.bool c.toBool))
 |.str,c,K=>cw c.isStr (K (.str c.toStr))
 |.sl n,c,K=>match pl with
  |true=>cw (c.FV n) (K (.sl n c.toEs false))
  |false=>cw c.wh (c.force K)
 |.other,c,K=>match pl with
  |true=>match c with|.iQ=>K .iQ|_=>False
  |false=>cw c.wh (c.force K)
def JN(pl:Bool)(e:List D):List rm->Nat->(List D->Prop)->Prop
 |[],_,K=>K []
 |t::ts,off,K=>uV pl t (e.getD off .dead) λd=>JN pl e ts (off+1) λds=>K (d::ds)
def uW(pl:Bool)(t:TI)(e:List D)(off:Nat)(K:D->Prop):Prop:=
 match t.kind.isAgg with
 |true=>JN pl e t.s9 off λds=>K (.agg ds)
 |false=>match t.s9 with
  |[y]=>uV pl y (e.getD off .dead) K
  |_=>False
def lD:List D->Nat->List D->List D
 |e,_,[]=>e
 |e,off,v::vs=>lD (e.set off v) (off+1) vs
def QM:Value->Option D
 |.bool b=>some (.bool b)
 |.int k n=>some (.int k n)
 |.string s=>some (.str s.data.toList)
 |.slice none 0 0=>some .du
 |.pointer none=>some .iQ
 |.nilIface=>some .jQ
 |.nilFunc=>some .dead
 |_=>none
def BD:List Value->Option (List D)
 |[]=>some []
 |v::vs=>match QM v,BD vs with|some d,some ds=>some (d::ds)|_,_=>none
def Gg:Value->Option D
 |.agg cs=>(BD cs.toList).map .agg
 |v=>QM v
structure St where
 env:List (Nat×D)
 rows:Rows
def look:List (Nat×D)->Nat->D
 |[],_=>.dead
 |(u,d)::l,t=>match bT u t with|true=>d|false=>look l t
def cb(env:List (Nat×D)):Operand->D
 |.tmp t=>look env t
 |.const v=>(Gg v).getD .dead
 |.func f=>match bJ f YB with|true=>.gj f []|false=>.dead
 |_=>.dead
def bc(k:IntKind)(x y:Int):Int:=k.wrap (dV k.bits x&&&dV k.bits y).toNat
def il(k:IntKind)(x y:Int):Int:=k.wrap (dV k.bits x|||dV k.bits y).toNat
def nh(k:IntKind)(x y:Int):Int:=k.wrap (dV k.bits x^^^dV k.bits y).toNat
def nU(k:IntKind)(x y:Int):Int:=k.wrap (dV k.bits x&&&~~~dV k.bits y).toNat
def eg(k:IntKind)(x y:Int):Int:=k.wrap (x*2^(min y.toNat k.bits))
def bf(k:IntKind)(x y:Int):Int:=x.fdiv (2^(min y.toNat k.bits))
def U0(op:BinOp)(k:IntKind)(x y:Int)(K:D->Prop):Prop:=
 match op with
 |.add=>K (.int k (k.wrap (x+y)))
 |.sub=>K (.int k (k.wrap (x-y)))
 |.mul=>K (.int k (k.wrap (x*y)))
 |.quo=>cw (decide (y≠0)) (K (.int k (k.wrap (x.tdiv y))))
 |.rem=>cw (decide (y≠0)) (K (.int k (x.tmod y)))
 |.and=>K (.int k (bc k x y))
 |.or=>K (.int k (il k x y))
 |.xor=>K (.int k (nh k x y))
 |.andNot=>K (.int k (nU k x y))
 |.eql=>K (.bool (x==y))
 |.neq=>K (.bool (x !=y))
 |.lss=>K (.bool (decide (x<y)))
 |.leq=>K (.bool (decide (x<=y)))
 |.gtr=>K (.bool (decide (x>y)))
 |.geq=>K (.bool (decide (x>=y)))
 |_=>False
def Jz:D->D->Bool
 |.int _ a,.int _ b=>a==b
 |.bool a,.bool b=>a==b
 |.str a,.str b=>decide (a=b)
 |_,_=>false
def eqs:List D->List D->Bool
 |[],_=>true
 |a::l,b::m=>Jz a b&&eqs l m
 |_::_,[]=>false
def fits:List rm->List D->Bool
 |[],[]=>true
 |.int k::t,d::l=>d.isInt k&&fits t l
 |.bool::t,d::l=>d.isBool&&fits t l
 |.str::t,d::l=>d.isStr&&fits t l
 |_,_=>false
def ta(T:fj)(op:BinOp)(t:TypeId)(x y:D)(K:D->Prop):Prop:=
 match x,y with
 |.int k a,.int k' b=>
  match op with
  |.shl=>cw (decide (0<=b)) (K (.int k (eg k a b)))
  |.shr=>cw (decide (0<=b)) (K (.int k (bf k a b)))
  |op=>cw (decide (k=k')) (U0 op k a b K)
 |.str a,.str b=>
  match op with
  |.add=>cw (decide (a.length+b.length<=maxLen)) (K (.str (a++b)))
  |.eql=>K (.bool (decide (a=b)))
  |.neq=>K (.bool (!decide (a=b)))
  |_=>False
 |.bool a,.bool b=>
  match T.get t with
  |some ⟨.bool,_,_,_,_,_⟩=>match op with
   |.eql=>K (.bool (a==b))
   |.neq=>K (.bool (!(a==b)))
   |_=>False
  |_=>False
 |.agg a,.agg b=>
  match T.get t with
  |some ti=>cw (ti.kind.isAgg&&bJ 0 ti.size&&ti.eq&&fits ti.s9 a&&fits ti.s9 b)<|
   match op with
   |.eql=>K (.bool (eqs a b))
   |.neq=>K (.bool (!(eqs a b)))
   |_=>False
  |none=>False
 |_,_=>False
def MM(T:fj)(s d:TypeId)(x:D)(K:D->Prop):Prop:=
 match T.get s,T.get d with
 |some ⟨.int _,_,_,_,_,_⟩,some ⟨.int k,_,_,_,_,_⟩=>match x with
  |.int _ n=>K (.int k (k.wrap n))
  |_=>False
 |some ⟨.string,_,_,_,_,_⟩,some ⟨.string,_,_,_,_,_⟩=>match x with
  |.str s=>K (.str s)
  |_=>False
 |_,_=>False
def QJ(T:fj)(s:TypeId)(f:Nat):Option (Nat×TypeId×Nat):=
 match T.get s with
 |some ⟨.struct fs,_,_,_,_,_⟩=>fs[f]?
 |_=>none
def F0(place:Nat->Option (Nat×Nat))(ev:Operand->D):List (Nat×Operand)->List D->(List D->Prop)->Prop
 |[],cs,K=>D.j4 cs K
 |(i,x)::ps,cs,K=>match place i with
  |some (off,n)=>cw ((ev x).isVal&&bT (ev x).cells.length n&&gT (off+n) cs.length) (F0 place ev ps (lD cs off (ev x).cells) K)
  |none=>False
def D.QS:D->D|.sl a b _=>.sl a b false|d=>d
def HI:List D->List D
 |[]=>[]
 |d::l=>d.QS::HI l
def HJ(n len:Nat)(ev:Operand->D):List (Nat×Operand)->List (List D)->(List (List D)->Prop)->Prop
 |[],es,K=>K es
 |(i,x)::ps,es,K=>cw (((ev x).isVal&&(HI (ev x).cells).all D.plain)&&bT (HI (ev x).cells).length n&&bJ i len) (HJ n len ev ps (es.set i (HI (ev x).cells)) K)
def Aa(row:Row):Rows->Nat->(Nat->Rows->Prop)->Prop
 |[],n,K=>K n [some row]
 |x::l,n,K=>Aa row l (n+1) λk l=>K k (x::l)
def Bd(R:Rows)(row:Row)(K:Nat->Rows->Prop):Prop:=Aa row R 0 K
def ints(e:List D)(off:Nat):Nat->List Int
 |0=>[]
 |n+1=>(e.getD off .dead).toInt::ints e (off+1) n
def bz(e:List D)(off:Nat):Nat->List Bool
 |0=>[]
 |n+1=>(e.getD off .dead).toBool::bz e (off+1) n
def Df(k:IntKind)(e:List D)(off:Nat):Nat->Bool
 |0=>true
 |n+1=>(e.getD off .dead).isInt k&&Df k e (off+1) n
def Hy(e:List D)(off:Nat):Nat->Bool
 |0=>true
 |n+1=>(e.getD off .dead).isBool&&Hy e (off+1) n
def HF(k:IntKind)(l:List Int)(j:Nat):Nat->List D
 |0=>[]
 |n+1=>.int k (l.getD j 0)::HF k l (j+1) n
def HG(l:List Bool)(j:Nat):Nat->List D
 |0=>[]
 |n+1=>.bool (l.getD j false)::HG l (j+1) n
def Ab(T:fj)(t:TypeId)(x:D)(R:Rows)(K:D->Rows->Prop):Prop:=
 match T.get t with
 |none=>False
 |some ti=>match x with
  |.ptr r i off=>match R.getD r none with
   |some ⟨box,_,sz,es⟩=>cw (gT (off+ti.size) sz) (uW (!box) ti (es.get i) off λd=>K d R)
   |none=>False
  |.pa r i off len k n=>match R.getD r none with
   |some ⟨_,_,sz,es⟩=>cw (gT (off+len) sz)<|match ti.kind,k with
    |.int j,some k=>cw (decide (j=k)&&Df k (es.get i) off len) (K (.int k ((ints (es.get i) off len).getD n 0)) R)
    |.bool,none=>cw (Hy (es.get i) off len) (K (.bool ((bz (es.get i) off len).getD n false)) R)
    |_,_=>False
   |none=>False
  |.iw sz es i off=>cw (gT (off+ti.size) sz) (uW true ti (es.get i) off λd=>K d R)
  |_=>False
def HH(T:fj)(t:TypeId)(x d:D)(R:Rows)(K:D->Rows->Prop):Prop:=
 match T.get t with
 |none=>False
 |some ti=>match x with
  |.ptr r i off=>match R.getD r none with
   |some ⟨box,ty,sz,es⟩=>cw (bJ 0 ti.size&&d.isVal&&bT d.cells.length ti.size&&gT (off+ti.size) sz)<|match box with
    |true=>D.j4 (lD (es.get i) off d.cells) λe=>tW (R.set r (some ⟨true,ty,sz,.gen [e]⟩)) λR=>K .dead R
    |false=>cw (d.cells.all D.plain) (tW (R.set r (some ⟨false,ty,sz,es.set i (lD (es.get i) off d.cells)⟩)) λR=>K .dead R)
   |none=>False
  |.pa r i off len k n=>match R.getD r none with
   |some ⟨box,ty,sz,es⟩=>cw (box&&gT (off+len) sz)<|match ti.kind,k,d with
    |.int j,some k,.int k' v=>cw (decide (j=k)&&decide (k'=k)&&Df k (es.get i) off len)<|
     D.j4 (lD (es.get i) off (HF k ((ints (es.get i) off len).set n v) 0 len)) λe=>tW (R.set r (some ⟨true,ty,sz,.gen [e]⟩)) λR=>K .dead R
    |.bool,none,.bool v=>cw (Hy (es.get i) off len)<|
     D.j4 (lD (es.get i) off (HG ((bz (es.get i) off len).set n v) 0 len)) λe=>tW (R.set r (some ⟨true,ty,sz,.gen [e]⟩)) λR=>K .dead R
    |_,_,_=>False
   |none=>False
  |_=>False
def U4(T:fj)(t:TypeId)(x:D)(U1:Bool)(n:Int)(R:Rows)(K:D->Rows->Prop):Prop:=
 match T.get t with
 |some ⟨.slice _ iR,_,_,_,_,_⟩=>match x with
  |.sl sz es _=>cw (bT sz iR&&bJ 0 iR&&decide (0<=n/\n<es.len)) (K (.iw sz es n.toNat 0) R)
  |.own r o m=>match R.getD r none with
   |some ⟨_,_,sz,_⟩=>cw (bT sz iR&&bJ 0 iR&&decide (0<=n/\n<m)) (K (.ptr r (o+n.toNat) 0) R)
   |none=>False
  |.all r=>match R.getD r none with
   |some ⟨_,_,sz,es⟩=>cw (bT sz iR&&bJ 0 iR&&decide (0<=n/\n<es.len)) (K (.ptr r n.toNat 0) R)
   |none=>False
  |_=>False
 |some ⟨.array len e iR,_,_,_,_,_⟩=>cw (bJ 0 iR&&decide (0<=n/\n<len))<|match x with
  |.ptr r i off=>match U1 with
   |true=>K (.ptr r i (off+n.toNat*iR)) R
   |false=>match T.get e with
    |some ⟨.int k,_,_,_,_,_⟩=>cw (bT iR 1) (K (.pa r i off len (some k) n.toNat) R)
    |some ⟨.bool,_,_,_,_,_⟩=>cw (bT iR 1) (K (.pa r i off len none n.toNat) R)
    |_=>K (.ptr r i (off+n.toNat*iR)) R
  |.iw sz es i off=>K (.iw sz es i (off+n.toNat*iR)) R
  |_=>False
 |_=>False
def sg(x:Option Operand)(ev:Operand->D)(n:Int):Option Int:=match x with|none=>some n|some y=>match ev y with|.int _ m=>some m|_=>none
def MN(T:fj)(t:TypeId)(x:D)(lo hi:Option Operand)(ev:Operand->D)(R:Rows)(K:D->Rows->Prop):Prop:=
 match T.get t with
 |some ⟨.string,_,_,_,_,_⟩=>match x with
  |.str s=>match sg lo ev 0,sg hi ev s.length with
   |some l,some h=>cw (decide (0<=l/\l<=h/\h<=s.length)) (K (.str ((s.drop l.toNat).take (h.toNat-l.toNat))) R)
   |_,_=>False
  |_=>False
 |some ⟨.slice _ iR,_,_,_,_,_⟩=>match x with
  |.sl sz es fr=>match sg lo ev 0,sg hi ev es.len with
   |some l,some h=>cw (bT sz iR&&bJ 0 iR&&decide (0<=l/\l<=h/\h<=es.len)) (K (.sl sz ((es.drop l.toNat).take (h.toNat-l.toNat)) fr) R)
   |_,_=>False
  |.all r=>match R.getD r none with
   |some ⟨_,_,sz,es⟩=>match sg lo ev 0,sg hi ev es.len with
    |some l,some h=>cw (bT sz iR&&bJ 0 iR&&decide (0<=l/\l<=h/\h<=es.len)) (K (.own r l.toNat (h.toNat-l.toNat)) R)
    |_,_=>False
   |none=>False
  |.own r o n=>match R.getD r none with
   |some ⟨_,_,sz,_⟩=>match sg lo ev 0,sg hi ev n with
    |some l,some h=>cw (bT sz iR&&bJ 0 iR&&decide (0<=l/\l<=h/\h<=n)) (K (.own r (o+l.toNat) (h.toNat-l.toNat)) R)
    |_,_=>False
   |none=>False
  |_=>False
 |some ⟨.array len e iR,_,_,_,_,_⟩=>match x,lo,hi with
  |.iw sz es i off,none,none=>match T.get e with
   |some ⟨.int k,_,_,_,_,_⟩=>cw (bT iR 1&&(gT (off+len) sz&&Df k (es.get i) off len)) (K (.sl 1 (.ints k (ints (es.get i) off len)) false) R)
   |_=>False
  |_,_,_=>False
 |_=>False
def uY(T:fj)(t:TypeId)(n m:Int)(R:Rows)(K:D->Rows->Prop):Prop:=
 match T.get t with
 |some ⟨.slice e _,_,_,_,_,_⟩=>match T.get e with
  |some ⟨_,sz,lV,_,some z,_⟩=>cw (bJ 0 sz&&bT z.length sz&&z.all D.plain&&decide (0<=n/\n<=m/\m<=9223372036854775807/\(lV:Int)*m<=140737488355328))
   (Bd R ⟨false,e,sz,ai.F1 e n.toNat z⟩ λk R=>K (.all k) R)
  |_=>False
 |_=>False
def tj(T:fj)(t:TypeId)(x:D)(R:Rows)(K:D->Rows->Prop):Prop:=
 match T.get t with
 |some ⟨.string,_,_,_,_,_⟩=>match x with
  |.str s=>K (.int .i64 s.length) R
  |_=>False
 |some ⟨.slice _ _,_,_,_,_,_⟩=>match x with
  |.sl _ es _=>K (.int .i64 es.len) R
  |.own _ _ n=>K (.int .i64 n) R
  |.all r=>match R.getD r none with
   |some ⟨_,_,_,es⟩=>K (.int .i64 es.len) R
   |none=>False
  |.du=>K (.int .i64 0) R
  |.emp=>K (.int .i64 0) R
  |_=>False
 |_=>False
def MO(T:fj)(t:TypeId)(parts:List (Nat×Operand))(ev:Operand->D)(R:Rows)(K:D->Rows->Prop):Prop:=
 match T.get t with
 |some ⟨.struct fs,_,_,_,some ds,_⟩=>cw (fs.all λf=>bJ 0 f.2.2)<|F0 (λi=>(fs[i]?).map λf=>(f.1,f.2.2)) ev parts ds λcs=>K (.agg cs) R
 |some ⟨.array _ _ iR,_,_,_,some ds,_⟩=>cw (bJ 0 iR)<|F0 (λi=>some (i*iR,iR)) ev parts ds λcs=>K (.agg cs) R
 |_=>False
def MP(T:fj)(t:TypeId)(len:Nat)(parts:List (Nat×Operand))(ev:Operand->D)(R:Rows)(K:D->Rows->Prop):Prop:=
 match T.get t with
 |some ⟨.slice e _,_,_,_,_,_⟩=>match T.get e with
  |some ⟨_,sz,_,_,some z,_⟩=>cw (bJ 0 sz&&bT z.length sz&&gT (len*sz) 16777216&&z.all D.plain)<|
   HJ sz len ev parts (List.replicate len z) λes=>match len with|0=>K .emp R|_+1=>K (.sl sz (ai.ofT e es) true) R
  |_=>False
 |_=>False
def Hz:iz->Option (Nat×Nat×Nat)|.ptr r i off=>some (r,i,off)|_=>none
def QB:List iz->Option (List (Nat×Nat×Nat))
 |[]=>some []
 |x::l=>match Hz x,QB l with|some p,some ps=>some (p::ps)|_,_=>none
def Dh:D->Option iz
 |.ptr r i off=>some (.ptr r i off)
 |.int k n=>some (.int k n)
 |.all r=>some (.arr r)
 |.sl a b fr=>some (.sl a b fr)
 |.gj f cs=>match QB cs with|some ps=>some (.fn f ps)|none=>none
 |_=>none
def KK:List D->Option (List iz)
 |[]=>some []
 |d::l=>match Dh d,KK l with|some x,some xs=>some (x::xs)|_,_=>none
def ik(T:fj)(o:Op)(ev:Operand->D)(R:Rows)(K:D->Rows->Prop):Prop:=
 match o with
 |.move x|.assign x=>(ev x).force λd=>K d R
 |.alloc t=>match T.get t with
  |some ⟨_,sz,_,_,some ds,_⟩=>cw (bJ 0 sz&&bT ds.length sz) (Bd R ⟨true,t,sz,.gen [ds]⟩ λk R=>K (.ptr k 0 0) R)
  |_=>False
 |.box t x=>match T.get t with
  |some ⟨_,sz,_,_,_,_⟩=>cw (bJ 0 sz&&(ev x).isVal&&bT (ev x).cells.length sz) (D.j4 (ev x).cells λcs=>Bd R ⟨true,t,sz,.gen [cs]⟩ λk R=>K (.ptr k 0 0) R)
  |none=>False
 |.build t parts=>MO T t parts.toList ev R K
 |.buildSlice t len parts=>MP T t len parts.toList ev R K
 |.load t a=>Ab T t (ev a) R K
 |.store t a x=>HH T t (ev a) (ev x) R K
 |.nilCheck x=>match ev x with
  |.ptr a b c=>K (.ptr a b c) R
  |.iw a b c d=>K (.iw a b c d) R
  |_=>False
 |.binOp op t x y _=>ta T op t (ev x) (ev y) λd=>K d R
 |.unOp op _ x=>match op,ev x with
  |.neg,.int k n=>K (.int k (k.wrap (0-n))) R
  |.xor,.int k n=>K (.int k (nh k (if k.signed then-1 else k.max) n)) R
  |.not,.bool b=>K (.bool (!b)) R
  |_,_=>False
 |.convert s d x=>MM T s d (ev x) λv=>K v R
 |.fieldAddr s x f=>match QJ T s f with
  |some (o,_,n)=>cw (bJ 0 n)<|match ev x with
   |.ptr r i off=>K (.ptr r i (off+o)) R
   |.iw sz es i off=>K (.iw sz es i (off+o)) R
   |_=>False
  |none=>False
 |.field s x f=>match QJ T s f with
  |some (o,t,n)=>match ev x,T.get t with
   |.agg cs,some ti=>cw (bJ 0 n&&gT (o+n) cs.length)<|match ti.kind.isAgg with
    |true=>D.j4 ((cs.drop o).take n) λl=>K (.agg l) R
    |false=>cw (cs.getD o .dead).wh ((cs.getD o .dead).force λd=>K d R)
   |_,_=>False
  |none=>False
 |.indexAddr t x ix=>match ev ix with
  |.int _ n=>U4 T t (ev x) (match ix with|.const _=>true|_=>false) n R K
  |_=>False
 |.index t x ix=>match T.get t,ev x,ev ix with
  |some ⟨.string,_,_,_,_,_⟩,.str s,.int _ n=>cw (decide (0<=n/\n<s.length)) (K (.int .u8 ((s.getD n.toNat 0).toNat:Int)) R)
  |some ⟨.array len e iR,_,_,_,_,_⟩,.agg cs,.int _ n=>cw (bT iR 1&&(bT cs.length len&&decide (0<=n/\n<len)))<|match T.get e with
   |some ⟨.int k,_,_,_,_,_⟩=>cw (Df k cs 0 len) (K (.int k ((ints cs 0 len).getD n.toNat 0)) R)
   |some ⟨.bool,_,_,_,_,_⟩=>cw (Hy cs 0 len) (K (.bool ((bz cs 0 len).getD n.toNat false)) R)
   |_=>False
  |_,_,_=>False
 |.extract x i=>match ev x with
  |.dt ds=>cw (ds.getD i .dead).isVal ((ds.getD i .dead).force λd=>K d R)
  |_=>False
 |.slice t x lo hi none=>MN T t (ev x) lo hi ev R K
 |.makeSlice t l c=>match ev l,ev c with
  |.int _ n,.int _ m=>uY T t n m R K
  |_,_=>False
 |.call {callee:=.builtin .len,args,argTypes}=>match args.toList,argTypes.toList with
  |[x],[t]=>tj T t (ev x) R K
  |_,_=>False
 |.makeFunc fn first captured=>match fn with
  |.func f=>cw (bT first.size 0&&bJ f YB)<|match KK (captured.toList.map ev)with
   |some cs=>K (.gj f cs) R
   |none=>False
  |_=>False
 |_=>False
def pos(r:Nat):List Nat->Nat->Nat
 |[],k=>k
 |x::l,k=>match bT x r with|true=>k|false=>pos r l (k+1)
def cf(r:Nat):List Nat->Bool
 |[]=>false
 |x::l=>match bT x r with|true=>true|false=>cf r l
def pJ:List Nat->List Nat->Bool
 |[],_=>true
 |x::l,m=>match cf x m with|true=>pJ l m|false=>false
def nQ:List Nat->List Nat->Bool
 |[],_=>true
 |x::l,m=>match cf x m with|true=>false|false=>nQ l m
def lP:List Nat->List Nat->List Nat
 |ids,[]=>ids
 |ids,x::l=>match cf x ids with|true=>lP ids l|false=>lP (ids++[x]) l
def EE:List Nat->Bool
 |[]=>true
 |x::l=>match cf x l with|true=>false|false=>EE l
def Dd:iz->List Nat|.ptr r _ _=>[r]|.arr r=>[r]|.fn _ ps=>ps.map (·.1)|_=>[]
def oE:List iz->List Nat
 |[]=>[]
 |x::l=>Dd x++oE l
def iz.jm(f:Nat->Nat)(cy:Bool):iz->iz
 |.ptr r i off=>.ptr (f r) i off
 |.int k n=>.int k n
 |.arr r=>.arr (f r)
 |.sl a b fr=>.sl a b (fr&&cy)
 |.fn g ps=>.fn g (ps.map λp=>(f p.1,p.2))
def nP:D->List Nat|.gj _ cs=>oE cs|.c8 r=>[r]|.all r=>[r]|.own r _ _=>[r]|.ptr r _ _=>[r]|.pa r _ _ _ _ _=>[r]|_=>[]
def re:List D->List Nat
 |[]=>[]
 |d::l=>nP d++re l
def FR:D->List Nat|.agg cs=>re cs|d=>nP d
def D.eh(ks:List Nat):D->D
 |.all r=>match cf r ks with|true=>.dead|false=>.all r
 |.own r o n=>match cf r ks with|true=>.dead|false=>.own r o n
 |.ptr r i off=>match cf r ks with|true=>.dead|false=>.ptr r i off
 |.pa r i off l k n=>match cf r ks with|true=>.dead|false=>.pa r i off l k n
 |.c8 r=>match cf r ks with|true=>.dead|false=>.c8 r
 |.gj f cs=>match nQ (oE cs) ks with|true=>.gj f cs|false=>.dead
 |d=>d
def D.kD(ks:List Nat):List D->List D
 |[]=>[]
 |d::l=>d.eh ks::kD ks l
def D.kill(ks:List Nat):D->D
 |.agg cs=>.agg (D.kD ks cs)
 |d=>d.eh ks
def D.pS(ks:List Nat):List D->List D
 |[]=>[]
 |d::l=>d.kill ks::pS ks l
def D.gk(ks:List Nat):D->D
 |.dt ds=>.dt (D.pS ks ds)
 |d=>d.kill ks
def Row.kill(ks:List Nat):Row->Row
 |⟨true,ty,sz,.gen [e]⟩=>⟨true,ty,sz,.gen [D.kD ks e]⟩
 |r=>r
def se(ks:List Nat):Rows->Nat->Rows
 |[],_=>[]
 |x::l,i=>(match cf i ks with|true=>none|false=>match x with|some row=>some (row.kill ks)|none=>none)::se ks l (i+1)
def Gq(ks:List Nat):List (Nat×D)->(List (Nat×D)->Prop)->Prop
 |[],K=>K []
 |(t,d)::l,K=>(d.gk ks).force λd=>Gq ks l λl=>K ((t,d)::l)
def iX(s:List UInt8):List Int:=s.map λb=>(b.toNat:Int)
def bytesOf(l:List Int):List UInt8:=l.map λn=>UInt8.ofNat n.toNat
def sF(R:Rows):D->Option (Nat×ai)
 |.du=>some (0,.gen [])
 |.emp=>some (0,.gen [])
 |.sl sz es _=>some (sz,es)
 |.all r=>match R.getD r none with|some ⟨false,_,sz,es⟩=>some (sz,es)|_=>none
 |.own r o n=>match R.getD r none with|some ⟨false,_,sz,es⟩=>some (sz,(es.drop o).take n)|_=>none
 |_=>none
def CV(R:Rows)(ke kx:TK)(y:D):Option (Nat×ai):=
 match kx with
 |.slice _ _=>sF R y
 |.string=>match ke,y with
  |.int .u8,.str s=>some (1,.ints .u8 (iX s))
  |_,_=>none
 |_=>none
def IM:ai->Bool|.gen []=>true|_=>false
def CX(e sz lV:Nat)(R:Rows)(ks:List Nat)(es ys:ai)(K:List Nat->D->Rows->Prop):Prop:=
 cw (decide (lV*(es.len+ys.len)<=140737488355328))<|tW (se ks R 0++[some ⟨false,e,sz,es.app ys⟩]) λR'=>K ks (.all R.length) R'
def My (T:fj)(M:Nat)(t tx:TypeId)(x y:D)(R:Rows)(K:List Nat->D->Rows->Prop):Prop:=
 match T.get t with
 |some ⟨.slice e iR,_,_,_,_,_⟩=>match T.get e,T.get tx with
  |some ⟨ke,sz,lV,_,some z,_⟩,some ⟨kx,_,_,_,_,_⟩=>match CV R ke kx y with
   |some (sy,ys)=>cw ((bJ 0 sz&&bT iR sz)&&(bT z.length sz&&z.all D.plain)&&(bJ 0 lV&&(bT sy sz||IM ys)))<|
    match x with
    |.du=>CX e sz lV R [] (.gen []) ys K
    |.emp=>CX e sz lV R [] (.gen []) ys K
    |.all r=>match R.getD r none with
     |some ⟨false,ty,s,es⟩=>cw ((bT s sz&&bT ty e)&&gT M r) (CX e sz lV R [r] es ys K)
     |_=>False
    |.own r o n=>match R.getD r none with
     |some ⟨false,ty,s,es⟩=>cw ((bT s sz&&bT ty e)&&(gT M r&&bT o 0)) (CX e sz lV R [r] (es.take n) ys K)
     |_=>False
    |_=>False
   |none=>False
  |_,_=>False
 |_=>False
def uf(T:fj)(t tx:TypeId)(x y:D)(R:Rows)(K:D->Rows->Prop):Prop:=
 match T.get t with
 |some ⟨.slice e iR,_,_,_,_,_⟩=>match T.get e,T.get tx with
  |some ⟨ke,sz,_,_,_,_⟩,some ⟨kx,_,_,_,_,_⟩=>match CV R ke kx y with
   |some (sy,ys)=>cw ((bJ 0 sz&&bT iR sz)&&(bT sy sz||IM ys))<|
    match x with
    |.all r=>match R.getD r none with
     |some ⟨false,ty,s,es⟩=>cw (bT s sz)<|tW (R.set r (some ⟨false,ty,s,(ys.take (min ys.len es.len)).app (es.drop (min ys.len es.len))⟩)) λR'=>K (.int .i64 (min ys.len es.len:Nat)) R'
     |_=>False
    |.own r o n=>match R.getD r none with
     |some ⟨false,ty,s,es⟩=>cw (bT s sz)<|tW (R.set r (some ⟨false,ty,s,((es.take o).app (ys.take (min ys.len n))).app (es.drop (o+min ys.len n))⟩)) λR'=>K (.int .i64 (min ys.len n:Nat)) R'
     |_=>False
    |_=>False
   |none=>False
  |_,_=>False
 |_=>False
inductive Ans where
 |no
 |ok (res:D) (rows:List Row)
 |when (p:Prop) (res:D) (rows:List Row)
 |abs (α:Type) (v:α) (res:α->D) (rows:α->List Row)
 |lT (p:Prop) (α:Type) (v:α) (res:α->D) (rows:α->List Row)
structure bb where
 f:FuncId
 refs:List Bool
 flat:Bool
 m:List D->List Row->Ans
 gone:Option Nat
 pj:Bool
def oU:List bb->FuncId->Option bb
 |[],_=>none
 |x::l,f=>match bT x.f f with|true=>some x|false=>oU l f
def FQ(R:Rows):D->Option D
 |.bool b=>some (.bool b)
 |.int k n=>some (.int k n)
 |.str s=>some (.str s)
 |.iQ=>some .iQ
 |.jQ=>some .jQ
 |.du=>some (.sl 0 (.gen []) false)
 |.emp=>some (.sl 0 (.gen []) false)
 |.sl a b _=>some (.sl a b false)
 |.all r=>match R.getD r none with|some row=>(match row.box with|false=>some (.sl row.sz row.es false)|true=>none)|none=>none
 |.own r o n=>match R.getD r none with|some row=>(match row.box with|false=>some (.sl row.sz ((row.es.drop o).take n) false)|true=>none)|none=>none
 |_=>none
def JL(R:Rows):List D->Option (List D)
 |[]=>some []
 |d::ds=>match FQ R d,JL R ds with|some x,some xs=>some (x::xs)|_,_=>none
def conv(R:Rows):D->Option D
 |.agg cs=>(JL R cs).map .agg
 |d=>FQ R d
def D.mF(f:Nat->Nat)(cy:Bool):D->D
 |.all r=>.all (f r)
 |.own r o n=>.own (f r) o n
 |.ptr r i off=>.ptr (f r) i off
 |.pa r i off l k n=>.pa (f r) i off l k n
 |.sl a b fr=>.sl a b (fr&&cy)
 |.gj g cs=>.gj g (cs.map (iz.jm f cy))
 |.c8 r=>.c8 (f r)
 |d=>d
def D.mG(f:Nat->Nat)(cy:Bool):List D->List D
 |[]=>[]
 |d::l=>d.mF f cy::mG f cy l
def D.jm(f:Nat->Nat)(cy:Bool):D->D
 |.agg cs=>.agg (D.mG f cy cs)
 |d=>d.mF f cy
def D.Bf(f:Nat->Nat)(cy:Bool):List D->List D
 |[]=>[]
 |d::l=>d.jm f cy::Bf f cy l
def D.tf(f:Nat->Nat)(cy:Bool):D->D
 |.dt ds=>.dt (D.Bf f cy ds)
 |d=>d.jm f cy
def Row.jm(f:Nat->Nat)(cy:Bool):Row->Row
 |⟨true,ty,sz,.gen [e]⟩=>⟨true,ty,sz,.gen [D.mG f cy e]⟩
 |r=>r
def Dc(R:Rows):List Nat->List Nat
 |[]=>[]
 |r::l=>(match R.getD r none with|some ⟨true,_,_,.gen [e]⟩=>re e|_=>[])++Dc R l
def Dj:List Bool->List D->List Nat
 |true::bs,d::ds=>FR d++Dj bs ds
 |false::bs,_::ds=>Dj bs ds
 |_,_=>[]
def lS:List Bool->List D->List Nat
 |true::bs,_::ds=>lS bs ds
 |false::bs,d::ds=>FR d++lS bs ds
 |[],d::ds=>FR d++lS [] ds
 |_,[]=>[]
def mC(R:Rows)(bs:List Bool)(args:List D):List Nat:=
 let a:=lP [] (Dj bs args)
 let b:=lP a (Dc R a)
 lP b (Dc R b)
def BA(R:Rows)(f:Nat->Nat):List Nat->Option (List Row)
 |[]=>some []
 |r::l=>match R.getD r none,BA R f l with
  |some row,some rs=>some (row.jm f false::rs)
  |_,_=>none
def s7(R:Rows)(f:Nat->Nat):List Bool->List D->Option (List D)
 |true::bs,d::ds=>match d.isVal,s7 R f bs ds with|true,some xs=>some (d.jm f false::xs)|_,_=>none
 |false::bs,d::ds=>match conv R d,s7 R f bs ds with|some x,some xs=>some (x::xs)|_,_=>none
 |[],d::ds=>match conv R d,s7 R f [] ds with|some x,some xs=>some (x::xs)|_,_=>none
 |_,[]=>some []
def bk(ids:List Nat)(n0 i:Nat):Nat:=match ids[i]? with|some r=>r|none=>n0+(i-ids.length)
def tX(f:Nat->Nat):List Nat->List Row->Rows->Rows
 |r::ids,row::rows,R=>tX f ids rows (R.set r (some (row.jm f true)))
 |_,_,R=>R
def BF(f:Nat->Nat)(rows:List Row):Rows:=rows.map λrow=>some (row.jm f true)
inductive Ex where
 |normal|exit (id:Nat)|ret
def St.put(N:Nat)(st:St)(dst:Option Tmp)(d:D)(R:Rows)(K:St->Prop):Prop:=
 match dst with
 |none=>K ⟨st.env,R⟩
 |some t=>cw (bJ t N) (K ⟨(t,d)::st.env,R⟩)
def St.kK(st:St)(c:Operand)(b:Bool):St:=
 match c with
 |.tmp t=>⟨(t,.bool b)::st.env,st.rows⟩
 |_=>st
def EF(R:Rows)(ids:List Nat)(res:D)(ak:List Row)(K:D->Rows->Prop):Prop:=
 cw (gT ids.length ak.length)<|(res.tf (bk ids R.length) true).force λres=>
  tW (tX (bk ids R.length) ids ak R++BF (bk ids R.length) (ak.drop ids.length)) λR=>K res R
def tg(G:List bb)(f:FuncId)(args:List D)(R:Rows)(K:D->Rows->Prop):Prop:=
 match oU G f with
 |some x=>
  match s7 R (λr=>pos r (mC R x.refs args) 0) x.refs args,BA R (λr=>pos r (mC R x.refs args) 0) (mC R x.refs args)with
  |some az,some rows=>
   cw ((x.flat&&(match mC R x.refs args with|[]=>true|_=>false)||(match lS x.refs args with|[]=>true|_=>false))&&
    (pJ (Dj x.refs args) (mC R x.refs args)&&pJ (Dc R (mC R x.refs args)) (mC R x.refs args))&&
    (EE (mC R x.refs args)&&nQ (lS x.refs args) (mC R x.refs args)))<|
   match x.m az rows with
   |.ok res ak=>EF R (mC R x.refs args) res ak K
   |.when p res ak=>p/\EF R (mC R x.refs args) res ak K
   |.abs _ v res ak=>∀X,X=v->EF R (mC R x.refs args) (res X) (ak X) K
   |.lT p _ v res ak=>p/\∀X,X=v->EF R (mC R x.refs args) (res X) (ak X) K
   |.no=>False
  |_,_=>False
 |none=>False
def pf(G:List bb)(f:FuncId):Option Nat:=match oU G f with|some x=>x.gone|none=>none
def FO(f:Nat->Nat):List Nat->List Row->Rows->Rows
 |r::ids,row::rows,R=>FO f ids rows (R.set r (some (row.jm f false)))
 |_,_,R=>R
def P2(f:Nat->Nat)(rows:List Row):Rows:=rows.map λrow=>some (row.jm f false)
def Hu(R:Rows)(M0 gid:List Nat)(res:D)(ak:List Row)(K:List Nat->D->Rows->Prop):Prop:=
 cw (gT M0.length ak.length)<|(res.tf (bk M0 R.length) false).force λres=>
  tW (FO (bk M0 R.length) M0 ak (se gid R 0)++P2 (bk M0 R.length) (ak.drop M0.length)) λR=>K gid res R
def Iu(G:List bb)(M:Nat)(f:FuncId)(k:Nat)(args:List D)(R:Rows)(K:List Nat->D->Rows->Prop):Prop:=
 match oU G f with
 |some x=>
  match s7 R (λr=>pos r (mC R x.refs args) 0) x.refs args,BA R (λr=>pos r (mC R x.refs args) 0) (mC R x.refs args)with
  |some az,some rows=>
   cw (((match lS x.refs args with|[]=>true|_=>false)&&(match x.refs with|[]=>false|_=>true))&&
    (pJ (Dj x.refs args) (mC R x.refs args)&&pJ (Dc R (mC R x.refs args)) (mC R x.refs args))&&
    (EE (mC R x.refs args)&&((mC R x.refs args).drop k).all λr=>gT M r))<|
   match x.m az rows with
   |.abs _ v res ak=>∀X,X=v->Hu R ((mC R x.refs args).take k) ((mC R x.refs args).drop k) (res X) (ak X) K
   |.lT p _ v res ak=>p/\∀X,X=v->Hu R ((mC R x.refs args).take k) ((mC R x.refs args).drop k) (res X) (ak X) K
   |_=>False
  |_,_=>False
 |none=>False
def Z3(G:List bb)(f:FuncId):Bool:=match oU G f with|some x=>x.pj|none=>false
def Db(G:List bb)(M:Nat)(f:FuncId)(args:List D)(R:Rows)(K:List Nat->D->Rows->Prop):Prop:=
 match oU G f with
 |some x=>
  match s7 R (λr=>r) [] args,BA R (λr=>pos r (lP [] (lS [] args)) 0) (lP [] (lS [] args))with
  |some az,some rows=>
   cw (((match x.refs with|[]=>true|_=>false)&&rows.all λr=>!r.box)&&(EE (lP [] (lS [] args))&&(pJ (lS [] args) (lP [] (lS [] args))&&(lP [] (lS [] args)).all λr=>gT M r)))<|
   match x.m az []with
   |.abs _ v res ak=>∀X,X=v->Hu R [] (lP [] (lS [] args)) (res X) (ak X) K
   |.lT p _ v res ak=>p/\∀X,X=v->Hu R [] (lP [] (lS [] args)) (res X) (ak X) K
   |_=>False
  |_,_=>False
 |none=>False
def QI:D->Bool|.gj _ _=>false|.c8 _=>false|.all _=>false|.own _ _ _=>false|.ptr _ _ _=>false|.pa _ _ _ _ _ _=>false|_=>true
def UY:List D->Bool
 |[]=>true
 |d::l=>match QI d with|true=>UY l|false=>false
def th:D->Bool|.agg cs=>UY cs|d=>QI d
def UZ:List D->Bool
 |[]=>true
 |d::l=>match th d with|true=>UZ l|false=>false
def uX:D->Bool|.dt ds=>UZ ds|d=>th d
def ML(R:Rows)(res:D)(ak:List Row)(K:D->Rows->Prop):Prop:=
 match ak with
 |[]=>cw (uX res) (res.force λres=>K res R)
 |_=>(res.tf (bk [] R.length) true).force λres=>tW (R++BF (bk [] R.length) ak) λR=>K res R
def Dl:List Nat->Bool|[]=>true|_=>false
def KG(G:List bb)(f:FuncId)(args:List D)(R:Rows)(K:D->Rows->Prop):Prop:=
 match oU G f with
 |some x=>match x.refs with
  |[]=>match s7 R (λr=>r) [] args with
   |some az=>cw (x.flat||Dl (lS [] args))<|match x.m az []with
    |.ok res ak=>ML R res ak K
    |.when p res ak=>p/\ML R res ak K
    |.abs _ v res ak=>∀X,X=v->ML R (res X) (ak X) K
    |.lT p _ v res ak=>p/\∀X,X=v->ML R (res X) (ak X) K
    |.no=>False
   |none=>False
  |_=>tg G f args R K
 |none=>False
def wE(T:fj)(e d:TypeId)(x:D)(R:Rows)(K:D->Prop):Prop:=
 match T.get e,T.get d with
 |some ⟨.int .u8,_,_,_,_,_⟩,some ⟨.string,_,_,_,_,_⟩=>match sF R x with
  |some (s,es)=>match es.toI .u8 with
   |some l=>cw (bT s 1||IM es) (K (.str (bytesOf l)))
   |none=>False
  |none=>False
 |_,_=>False
def ai.Nil:ai->Prop
 |.gen es=>es=[]
 |.ints _ l=>l=[]
 |.bz l=>l=[]
 |.ba _ l=>l=[]
def BT(T:fj)(t:TypeId)(es:ai)(K:D->Prop):Prop:=
 match T.get t with
 |some ⟨.slice _ _,_,_,_,_,_⟩=>K (.rk es)
 |_=>False
def wD(mx:Bool)(x y:D)(K:D->Prop):Prop:=
 match x,y with
 |.int k a,.int k' b=>cw (decide (k=k')) (K (.int k (match mx with|true=>(if b>a then b else a)|false=>(if b<a then b else a))))
 |_,_=>False
def lX(T:fj)(G:List bb)(N M:Nat)(o:Oper)(st:St)(K:St->Prop):Prop:=
  match o.op with
  | .pick c a b=>match cb st.env c with
    | .bool t=>DX t ((cb st.env a).force λd=>st.put N o.dst d st.rows K) ((cb st.env b).force λd=>st.put N o.dst d st.rows K)
    |_=>False
  | .call {callee:= .value (.func f),args, .. }=>match pf G f with
    | none=>match Z3 G f with
      |false=>KG G f (args.toList.map (cb st.env)) st.rows λd R=>st.put N o.dst d R K
      |true=>Db G M f (args.toList.map (cb st.env)) st.rows λks d R=>Gq ks st.env λenv=>St.put N ⟨env,R⟩ o.dst d R K
    |some k=>cw (bJ f YB)<|Iu G M f k (args.toList.map (cb st.env)) st.rows λks d R=>Gq ks st.env λenv=>St.put N ⟨env,R⟩ o.dst d R K
  | .call {callee:= .value (.tmp t),args, .. }=>match look st.env t with
    | .gj f cs=>match pf G f with
      | none=>match Z3 G f with
        |false=>KG G f (args.toList.map (cb st.env)++cs.map iz.d) st.rows λd R=>st.put N o.dst d R K
        |true=>False
      |some k=>cw (bJ f YB||bT args.size 1)<|Iu G M f k (args.toList.map (cb st.env)++cs.map iz.d) st.rows λks d R=>Gq ks st.env λenv=>St.put N ⟨env,R⟩ o.dst d R K
    |_=>False
  | .call {callee:= .builtin .append,args,argTypes}=>match args.toList,argTypes.toList with
    |[x,y],[t,tx]=>My T M t tx (cb st.env x) (cb st.env y) st.rows λks d R=>Gq ks st.env λenv=>St.put N ⟨env,R⟩ o.dst d R K
    |_,_=>False
  | .call {callee:= .builtin .copy,args,argTypes}=>match args.toList,argTypes.toList with
    |[x,y],[t,tx]=>uf T t tx (cb st.env x) (cb st.env y) st.rows λd R=>st.put N o.dst d R K
    |_,_=>False
  | .call {callee:= .builtin .min,args, .. }=>match args.toList with
    |[x,y]=>wD false (cb st.env x) (cb st.env y) λd=>st.put N o.dst d st.rows K
    |_=>False
  | .call {callee:= .builtin .max,args, .. }=>match args.toList with
    |[x,y]=>wD true (cb st.env x) (cb st.env y) λd=>st.put N o.dst d st.rows K
    |_=>False
  | .convert s d x=>match T.get s with
    |some ⟨.slice e _,_,_,_,_,_⟩=>wE T e d (cb st.env x) st.rows λd=>st.put N o.dst d st.rows K
    |_=>ik T (.convert s d x) (cb st.env) st.rows λd R=>st.put N o.dst d R K
  | .binOp op t x y ty=>match op,cb st.env x,cb st.env y with
    | .eql, .sl _ es _, .du=>BT T t es λd=>st.put N o.dst d st.rows K
    |_,_,_=>ik T (.binOp op t x y ty) (cb st.env) st.rows λd R=>st.put N o.dst d R K
  |op=>ik T op (cb st.env) st.rows λd R=>st.put N o.dst d R K
def mf(T:fj)(G:List bb)(N M:Nat)(ops:Array Oper):List Oper->St->(St->Prop)->Prop
  |[],st,K=>K st
  | o :: l, st,K=>match o.guard with
    |none=>lX T G N M o st λst=>mf T G N M ops l st K
    | some (j,want)=>match(ops[j]?).bind (·.dst) with
      | some g=>match look st.env g with
        | .bool b=>DX b
            (match want with|true=>lX T G N M o (st.kK (.tmp g) true) λst=>mf T G N M ops l st K|false=>(st.kK (.tmp g) true).put N o.dst (.dt []) st.rows λst=>mf T G N M ops l st K)
            (match want with|false=>lX T G N M o (st.kK (.tmp g) false) λst=>mf T G N M ops l st K|true=>(st.kK (.tmp g) false).put N o.dst (.dt []) st.rows λst=>mf T G N M ops l st K)
        | .dt []=>st.put N o.dst (.dt []) st.rows λst=>mf T G N M ops l st K
        |_=>False
      |none=>False
def su(G:List bb):Op->Bool
 |.store _ _ _=>true
 |.call {callee:=.value (.func f),.. }=>match oU G f with|some x=>(match x.refs with|[]=>x.pj|_=>true)|none=>true
 |.call {callee:=.value (.tmp _),.. }=>true
 |.call {callee:=.builtin .append,.. }=>true
 |.call {callee:=.builtin .copy,.. }=>true
 |_=>false
def lH(G:List bb)(o:Op):Bool:=!su G o
def BL(G:List bb)(ops:Array Oper)(b:Array Nat)(i j:Nat):Bool:=
 match ops[i]?,ops[j]? with
 |some x,some y=>
  (x.apart ops y||(b.getD j 0).testBit i)&&((lH G x.op&&lH G y.op)||(b.getD j 0).testBit i)
 |_,_=>true
def Ik(G:List bb)(ops:Array Oper):Bool:=
 let b:=Region.before ops
 (dB ops.size).all λj=>(match ops[j]? with|some o=>o.after.all λe=>!Region.binds .any e||bJ e.on j|none=>true)&&(dB j).all λi=>BL G ops b i j
def lF(ops:Array Oper)(i a:Nat):Bool:=(ops.toList.drop i).all λo=>match o.dst with|some d=>!(bT d a)|none=>true
def mQ:List Operand->List Nat
 |[]=>[]
 |.tmp a::l=>a::mQ l
 |_::l=>mQ l
def pM:Op->Option (List Nat)
 |.assign x=>some (mQ [x])
 |.move x=>some (mQ [x])
 |.extract x _=>some (mQ [x])
 |.nilCheck x=>some (mQ [x])
 |.fieldAddr _ x _=>some (mQ [x])
 |.buildSlice _ _ parts=>some (mQ (parts.toList.map (·.2)))
 |_=>none
def mb(env:List (Nat×D))(op:Op):Option (List Nat):=
 match pM op with
 |some q=>some q
 |none=>match op with
  |.build _ parts=>some (mQ (parts.toList.map (·.2)))
  |.binOp _ _ x y _=>match cb env x with|.int _ _=>some (mQ [x,y])|.str _=>some (mQ [x,y])|.bool _=>some (mQ [x,y])|_=>none
  |.unOp _ _ x=>some (mQ [x])
  |.convert _ _ x=>match cb env x with|.int _ _=>some (mQ [x])|.str _=>some (mQ [x])|_=>none
  |.field _ x _=>some (mQ [x])
  |.index _ x y=>some (mQ [x,y])
  |.slice _ x (some y) (some z) none=>match cb env x with|.str _=>some (mQ [x,y,z])|_=>none
  |.slice _ x (some y) none none=>match cb env x with|.str _=>some (mQ [x,y])|_=>none
  |.slice _ x none (some z) none=>match cb env x with|.str _=>some (mQ [x,z])|_=>none
  |.indexAddr _ x y=>match cb env x with|.sl _ _ _=>some (mQ [x,y])|_=>none
  |.load _ x=>match cb env x with|.iw _ _ _ _=>some (mQ [x])|_=>none
  |.call {callee:=.builtin .len,args,.. }=>match args.toList with|[x]=>(match cb env x with|.str _=>some (mQ [x])|.sl _ _ _=>some (mQ [x])|_=>none)|_=>none
  |_=>none
def HT:D->Bool|.ptr _ _ _=>true|_=>false
def J7:D->Bool|.emp=>true|.du=>true|_=>false
def DA(ops:Array Oper)(env:List (Nat×D))(i j:Nat)(op:Op)(l:List Operand):Bool:=
 match op,l with
 |.load _ (.tmp a),.tmp x::_=>lF ops i a&&(lF ops j x&&(HT (look env a)&&J7 (look env x)))
 |_,_=>false
def pL:D->Bool|.int _ _=>true|.str _=>true|.bool _=>true|.sl _ _ _=>true|.all _=>true|_=>false
def DB(ops:Array Oper)(env:List (Nat×D))(i:Nat)(op:Op)(dst:Option Nat):Bool:=
 match op,dst with
 |.load _ (.tmp a),some t=>lF ops i a&&(HT (look env a)&&(lF ops (i+1) t&&pL (look env t)))
 |_,_=>false
def MT(G:List bb)(ops:Array Oper)(env:List (Nat×D))(i j:Nat):Bool:=
 match ops[i]?,ops[j]? with
 |some x,some y=>(match x.guard,y.guard,x.op,y.op with
  |none,none,.load _ (.tmp a),.store _ (.tmp b) _=>lF ops i a&&(lF ops j b&&(match look env a,look env b with|.ptr r _ _,.ptr r' _ _=>!(bT r r')|.iw _ _ _ _,.ptr _ _ _=>true|_,_=>false))
  |none,none,op,.store _ (.tmp b) _=>(match mb env op with|some q=>(q.all λa=>lF ops i a)&&(lF ops j b&&(match look env b with|.ptr _ _ _=>true|_=>false))|none=>false)
  |none,none,op,.call {callee:=.value (.func f),.. }=>(match(match pf G f with|some _=>true|none=>Z3 G f)with|true=>false|false=>match mb env op with|some q=>q.all λa=>lF ops i a|none=>false)
  |none,none,op,.call {callee:=.builtin .append,args,.. }=>(match pM op with|some q=>(q.all λa=>lF ops i a&&HT (look env a))&&(match x.dst with|some t=>lF ops (i+1) t&&HT (look env t)|none=>true)|none=>DA ops env i j op args.toList||DB ops env i op x.dst)
  |_,_,_,_=>false)
 |_,_=>false
def u9(ops:Array Oper)(j:Nat):Bool:=
 match ops[j]? with
 |some y=>match y.guard,y.op with
  |none,.alloc _=>(match y.dst with|none=>true|some u=>(dB ops.size).all λk=>bT k j||(match(ops[k]?).bind (·.dst)with|some d=>!(bT d u)|none=>true))
  |_,_=>false
 |none=>false
def Ag(G:List bb)(ops:Array Oper)(env:List (Nat×D))(b:Array Nat)(i j:Nat):Bool:=
 match ops[i]?,ops[j]? with
 |some x,some y=>
  (x.apart ops y||(b.getD j 0).testBit i)&&((lH G x.op&&lH G y.op)||(b.getD j 0).testBit i||(MT G ops env i j||u9 ops j))
 |_,_=>true
def Rl(G:List bb)(ops:Array Oper)(env:List (Nat×D)):Bool:=
 let b:=Region.before ops
 (dB ops.size).all λj=>(match ops[j]? with|some o=>o.after.all λe=>!Region.binds .any e||bJ e.on j|none=>true)&&(dB j).all λi=>Ag G ops env b i j
def HY(x:Nat):List Nat->Nat->List Nat
 |l,0=>x::l
 |[],_=>[x]
 |y::l,n+1=>y::HY x l n
def DK(m:Nat):List Nat->Nat->Nat->Nat
 |[],_,r=>r
 |y::l,k,r=>DK m l (k+1) (match m.testBit y with|true=>k+1|false=>r)
def DL:List Oper->Bool
 |[]=>false
 |o::l=>match o.op with|.buildSlice _ 0 _=>true|_=>DL l
def Gd(e:Bool)(op:Op):Bool:=match pM op with|some _=>true|none=>(match op with|.load _ _=>e|_=>false)
def DM(e:Bool)(ops:Array Oper)(b:Array Nat):List Nat->List Nat->List Nat
 |[],acc=>acc
 |j ::js,acc=>DM e ops b js (match ops[j]? with
  |some o=>(match o.guard with
   |none=>(match Gd e o.op with|true=>HY j acc (DK (b.getD j 0) acc 0 0)|false=>acc++[j])
   |some _=>acc++[j])
  |none=>acc)
def RW(ops:Array Oper)(b:Array Nat):Bool:=
 (dB ops.size).any λj=>(match ops[j]? with|some y=>(match y.op with|.load _ _=>true|_=>false)|none=>false)&&(dB j).any λi=>(match ops[i]? with|some x=>(match x.op with|.call {callee:=.builtin .append,.. }=>true|_=>false)|none=>false)&&!((b.getD j 0).testBit i)
def Zn(ops:Array Oper):List Nat:=DM (DL ops.toList||RW ops (Region.before ops)) ops (Region.before ops) (dB ops.size) []
def Vk(p:List Nat)(n:Nat):Bool:=bT p.length n&&(((dB n).all λi=>cf i p)&&((p.all λi=>bJ i n)&&EE p))
def DE(p:List Nat)(e:Edge):Edge:=⟨pos e.on p 0,e.ground⟩
def MV(p:List Nat)(o:Oper):Oper:=⟨o.dst,o.op,o.type,o.pos,o.after.map (DE p),match o.guard with|none=>none|some (j,w)=>some (pos j p 0,w)⟩
def ny(p:List Nat)(ops:Array Oper):Array Oper:=(p.map λi=>MV p (ops.getD i default)).toArray
def u5(T:fj)(G:List bb)(N M:Nat)(ops:Array Oper)(st:St)(Q:Ex->St->Prop):Prop:=
 match Ik G ops with
 |true=>mf T G N M ops ops.toList st λst=>Q .normal st
 |false=>cw (Vk (Zn ops) ops.size)<|mf T G N M (ny (Zn ops) ops) (ny (Zn ops) ops).toList st λst=>cw (Rl G (ny (Zn ops) ops) st.env) (Q .normal st)
def HL(i n:Nat):List D->Option (List D)
 |[]=>none
 |d::l=>match d,l with
  |.iQ,.du::m=>some (.c8 i:: .all n::m)
  |d,l=>match HL i n l with|some l'=>some (d::l')|none=>none
def RX(T:fj)(t:TypeId):Bool:=match T.get t with|some ⟨_,_,_,_,some ds,_⟩=>(match HL 0 0 ds with|some _=>true|none=>false)|_=>false
def wj(T:fj):List Oper->Bool
 |[]=>false
 |o::l=>match o.op with|.alloc t=>(match RX T t with|true=>true|false=>wj T l)|_=>wj T l
def RY:fj->Option TypeId
 |[]=>none
 |(u,i)::l=>match i.kind with|.int .u8=>some u|_=>RY l
def Jai(T:fj):Code->Option TypeId
 |.region _ ops _=>(match wj T ops.toList with|true=>RY T|false=>none)
 |_=>none
def JS(n:Nat):Rows->Nat->Option (Nat×TypeId×Nat×List D)
 |[],_=>none
 |x::l,i=>match x with
  |some ⟨true,ty,sz,.gen [e]⟩=>(match HL i n e with|some e'=>some (i,ty,sz,e')|none=>JS n l (i+1))
  |_=>JS n l (i+1)
def JT(T:fj)(a:Code)(st:St)(K:St->Prop):Prop:=
 match Jai T a with
 |none=>K st
 |some u=>match JS st.rows.length st.rows 0 with
  |none=>K st
  |some (i,ty,sz,e)=>D.j4 e λe=>tW (st.rows.set i (some ⟨true,ty,sz,.gen [e]⟩)++[some ⟨false,u,1,.ints .u8 []⟩]) λR=>K ⟨st.env,R⟩
def D.Cc(R:Rows)(ks:List Nat):D->D
 |.all r=>match cf r ks with
  |true=>(match R.getD r none with|some ⟨false,_,sz,es⟩=>.sl sz es false|_=>.dead)
  |false=>.all r
 |.ptr r i off=>match cf r ks with
  |true=>(match R.getD r none with|some ⟨true,_,sz,.gen [e]⟩=>(match e.all D.plain with|true=>.iw sz (.gen [e]) i off|false=>.dead)|_=>.dead)
  |false=>.ptr r i off
 |d=>d.eh ks
def D.sG(R:Rows)(ks:List Nat):List D->List D
 |[]=>[]
 |d::l=>d.Cc R ks::sG R ks l
def D.Iy(R:Rows)(ks:List Nat):D->D
 |.agg cs=>.agg (D.sG R ks cs)
 |d=>d.Cc R ks
def D.Iz(R:Rows)(ks:List Nat):List D->List D
 |[]=>[]
 |d::l=>d.Iy R ks::Iz R ks l
def D.Cd(R:Rows)(ks:List Nat):D->D
 |.dt ds=>.dt (D.Iz R ks ds)
 |d=>d.Iy R ks
def Row.mv(R:Rows)(ks:List Nat):Row->Row
 |⟨true,ty,sz,.gen [e]⟩=>⟨true,ty,sz,.gen [D.sG R ks e]⟩
 |r=>r
def KJ(R0:Rows)(ks:List Nat):Rows->Nat->Rows
 |[],_=>[]
 |x::l,i=>(match cf i ks with|true=>none|false=>match x with|some row=>some (row.mv R0 ks)|none=>none)::KJ R0 ks l (i+1)
def Fa(R:Rows)(ks:List Nat):List (Nat×D)->(List (Nat×D)->Prop)->Prop
 |[],K=>K []
 |(t,d)::l,K=>(d.Cd R ks).force λd=>Fa R ks l λl=>K ((t,d)::l)
def DN:List D->List Nat
 |[]=>[]
 |d::l=>(match d with|.all r=>[r]|_=>[])++DN l
def RZ:D->List Nat|.agg cs=>DN cs|.all r=>[r]|_=>[]
def Ge(R:Rows)(n:Nat)(d:D):List Nat:=
 match d with
 |.ptr r _ off=>match R.getD r none with|some ⟨true,_,_,.gen [e]⟩=>DN ((e.drop off).take n)|_=>[]
 |_=>[]
def HZ:List (Nat×List Nat)->Nat->Option (List Nat)
 |[],_=>none
 |(u,x)::l,t=>match bT u t with|true=>some x|false=>HZ l t
def M1(env:List (Nat×D)):List (Nat×D)->Nat->D
 |[],t=>look env t
 |(u,x)::l,t=>match bT u t with|true=>x|false=>M1 env l t
def wm(env:List (Nat×D))(acc:List (Nat×List Nat)):Operand->List Nat
 |.tmp t=>match HZ acc t with|some l=>l|none=>RZ (look env t)
 |_=>[]
def Aj(env:List (Nat×D))(acc:List (Nat×List Nat)):List Operand->List Nat
 |[]=>[]
 |x::l=>wm env acc x++Aj env acc l
def Kn(T:fj)(env:List (Nat×D))(R:Rows)(acc:List (Nat×List Nat))(pa:List (Nat×D))(o:Oper):List (Nat×List Nat):=
 match o.dst with
 |none=>acc
 |some t=>match o.op with
  |.load ty (.tmp p)=>(t,Ge R (match T.get ty with|some i=>i.size|none=>0) (M1 env pa p))::acc
  |.move x=>(t,wm env acc x)::acc
  |.slice _ x _ _ _=>(t,wm env acc x)::acc
  |_=>acc
def Ko(T:fj)(env:List (Nat×D))(pa:List (Nat×D))(o:Oper):List (Nat×D):=
 match o.dst with
 |none=>pa
 |some t=>match o.op with
  |.fieldAddr s (.tmp p) f=>(match QJ T s f with|some (k,_,_)=>(match M1 env pa p with|.ptr r i off=>(t,.ptr r i (off+k))::pa|_=>pa)|none=>pa)
  |.move (.tmp p)=>(t,M1 env pa p)::pa
  |.nilCheck (.tmp p)=>(t,M1 env pa p)::pa
  |_=>pa
def Kp(G:List bb)(f:FuncId):Bool:=match oU G f with|some x=>x.pj||(match x.refs with|[]=>!x.flat|_=>false)|none=>false
def R3(T:fj)(env:List (Nat×D))(pa:List (Nat×D))(t:TypeId)(p:Nat):List Nat:=
 match T.get t with
 |some ⟨.array _ _ _,_,_,_,_,_⟩=>(match M1 env pa p with|.ptr r _ _=>[r]|_=>[])
 |_=>[]
def SL(T:fj)(G:List bb)(env:List (Nat×D))(R:Rows):List (Nat×List Nat)->List (Nat×D)->List Oper->List Nat
 |_,_,[]=>[]
 |acc,pa,o::l=>(match o.op with|.call {callee:=.value (.func f),args,.. }=>(match Kp G f with|true=>Aj env acc args.toList|false=>[])|.slice t (.tmp p) _ _ _=>R3 T env pa t p|_=>[])++SL T G env R (Kn T env R acc pa o) (Ko T env pa o) l
def uy(M:Nat)(R:Rows):List Nat->List Nat
 |[]=>[]
 |r::l=>match gT M r&&(match R.getD r none with|some ⟨false,_,_,_⟩=>true|some ⟨true,_,_,.gen [e]⟩=>e.all D.plain|_=>false)with|true=>r::uy M R l|false=>uy M R l
def IA(T:fj)(G:List bb)(M:Nat)(ops:Array Oper)(st:St)(K:St->Prop):Prop:=
 match uy M st.rows (SL T G st.env st.rows [] [] ops.toList)with
 |[]=>K st
 |ks=>Fa st.rows ks st.env λenv=>tW (KJ st.rows ks st.rows 0) λR=>K ⟨env,R⟩
def uz(T:fj)(R:Rows)(i:Nat):Option (TypeId×Nat×TypeId×Nat):=
 match R.getD i none with
 |some ⟨true,ty,sz,.gen [[d]]⟩=>(match d with
  |.du=>(match T.get ty with|some ⟨.slice e n,_,_,_,_,_⟩=>(match bJ 0 n with|true=>some (ty,sz,e,n)|false=>none)|_=>none)
  |.emp=>(match T.get ty with|some ⟨.slice e n,_,_,_,_,_⟩=>(match bJ 0 n with|true=>some (ty,sz,e,n)|false=>none)|_=>none)
  |_=>none)
 |_=>none
def IB(T:fj):List iz->List (Nat×D)->Rows->(Rows->Prop)->Prop
 |[],_,R,K=>K R
 |.ptr i _ _::l,env,R,K=>(match uz T R i with
  |some (ty,sz,e,n)=>Bd R ⟨false,e,n,.gen []⟩ λk R=>tW (R.set i (some ⟨true,ty,sz,.gen [[.all k]]⟩)) λR=>IB T l env R K
  |none=>IB T l env R K)
 |_::l,env,R,K=>IB T l env R K
def Zb(env:List (Nat×D)):List Operand->List iz
 |[]=>[]
 |.tmp t::l=>(match look env t with|.ptr i o f=>.ptr i o f::Zb env l|_=>Zb env l)
 |_::l=>Zb env l
def Ak(env:List (Nat×D)):List Oper->List iz
 |[]=>[]
 |o::l=>(match o.op with|.makeFunc _ _ captured=>Zb env captured.toList|_=>[])++Ak env l
def pk(T:fj)(G:List bb)(N M:Nat)(L:Code->St->(Ex->St->Prop)->Prop):Code->St->(Ex->St->Prop)->Prop
 |.skip,st,Q=>Q .normal st
 |.label _,st,Q=>Q .normal st
 |.region _ ops draw,st,Q=>IB T (Ak st.env ops.toList) st.env st.rows λR=>IA T G M ops ⟨st.env,R⟩ λst=>match draw with|true=>u5 T G N M ops st Q|false=>mf T G N M ops ops.toList st λst=>Q .normal st
 |.seq a b,st,Q=>pk T G N M L a st λe st=>match e with|.normal=>JT T a st λst=>pk T G N M L b st Q|.exit i=>Q (.exit i) st|.ret=>Q .ret st
 |.cond c a b,st,Q=>match cb st.env c with
  |.bool t=>DX t (pk T G N M L a (st.kK c true) Q) (pk T G N M L b (st.kK c false) Q)
  |.rk es=>(es.Nil->pk T G N M L a (st.kK c true) Q)/\pk T G N M L b (st.kK c false) Q
  |_=>False
 |.block id c,st,Q=>pk T G N M L c st λe st=>match e with|.normal=>Q .normal st|.exit i=>(match bT i id with|true=>Q .normal st|false=>Q (.exit i) st)|.ret=>Q .ret st
 |.exit id,st,Q=>Q (.exit id) st
 |.ret,st,Q=>Q .ret st
 |.scope c,st,Q=>pk T G N M L c st Q
 |c,st,Q=>L c st Q
def F5(T:fj)(R:Rows)(env:List (Nat×D)):List ResultVar->(List D->Prop)->Prop
 |[],K=>K []
 |.tmp t::l,K=>(look env t).force λd=>cw d.isVal (F5 T R env l λds=>K (d::ds))
 |.cell a t::l,K=>Ab T t (look env a) R λd _=>cw d.isVal (F5 T R env l λds=>K (d::ds))
def kL(ex:List Nat)(i r:Nat):Bool:=match ex[i]? with|some x=>bT x r|none=>false
def KN(ex:List Nat)(r:Nat):Bool:=ex.all λx=>!(bT x r)
def IQ(ex:List Nat)(R:Rows)(i:Nat):Bool:=match ex[i]? with|some r=>(match R.getD r none with|none=>true|some _=>false)|none=>false
def ai.Eq:ai->ai->Prop
 |.ints k l,.ints k' m=>match decide (k=k')with|true=>l=m|false=>(ai.ints k l).l=(ai.ints k' m).l
 |.bz l,.bz m=>l=m
 |.gen es,.gen fs=>es=fs
 |.gen [],.ints _ m=>m=[]
 |.gen [],.bz m=>m=[]
 |.gen [],.ba _ m=>m=[]
 |.ba k l,.ba k' m=>(match Gh k k' l with|some l'=>l'=m|none=>(ai.ba k l).l=(ai.ba k' m).l)
 |E,F=>E.l=F.l
theorem ai.AA{E F:ai}(h:ai.Eq E F):E.l=F.l:=by
 cases E with
 |gen es=>
  cases es with
  |nil=>cases F<;>simp_all [ai.Eq,ai.l]
  |cons e es=>cases F<;>simp_all [ai.Eq,ai.l]
 |ints k l=>
  cases F with
  |ints k' m=>
   simp only[ai.Eq]at h
   split at h
   ·rename_i hk;subst h;rw[oY hk]
   ·exact h
  |_=>exact h
 |bz l=>
  cases F with
  |bz m=>simp only[ai.Eq]at h;rw[h]
  |_=>exact h
 |ba k l=>
  cases F with
  |ba k' m=>
   simp only[ai.Eq]at h
   split at h
   ·rename_i l' hc
    obtain⟨e,hm⟩:=Wi hc
    subst e
    simp only at hm
    rw[<-h,<-hm]
   ·exact h
  |_=>exact h
theorem ai.ow{E:ai}:E.Nil↔E.l=[]:=by
 cases E<;>simp[ai.Nil,ai.l]
def sJ(ex:List Nat):List (Nat×Nat×Nat)->List (Nat×Nat×Nat)->Bool
 |[],[]=>true
 |(i,b,c)::l,(r,y,z)::m=>kL ex i r&&(bT b y&&(bT c z&&sJ ex l m))
 |_,_=>false
def pn(ex:List Nat):List iz->List iz->Bool
 |[],[]=>true
 |.ptr i b c::l,.ptr r y z::m=>kL ex i r&&(bT b y&&(bT c z&&pn ex l m))
 |.fn f ps::l,.fn g qs::m=>bT f g&&(sJ ex ps qs&&pn ex l m)
 |_,_=>false
def jD(ex:List Nat)(m:Nat)(R:Rows)(d p:D):Prop:=
 match p with
 |.int k n=>match d with|.int j q=>cw (decide (j=k)) (q=n)|_=>False
 |.bool b=>match d with|.bool a=>a=b|_=>False
 |.str s=>match d with|.str u=>u=s|_=>False
 |.iQ=>match d with|.iQ=>True|_=>False
 |.jQ=>match d with|.jQ=>True|_=>False
 |.gj f cs=>match d with|.gj g ds=>cw (bT f g&&pn ex cs ds) True|_=>False
 |.ptr i o f=>match d with|.ptr r o' f'=>cw (kL ex i r&&(bT o o'&&bT f f')) True|_=>False
 |.c8 i=>match d with|.iQ=>True|.c8 r=>cw (kL ex i r) True|.ptr r o f=>cw (kL ex i r&&(bT o 0&&bT f 0)) True|_=>False
 |.du=>match d with|.du=>True|_=>False
 |.emp=>match d with|.du=>True|.emp=>True|_=>False
 |.sl sz es fr=>match d with
  |.du=>es.Nil
  |.emp=>es.Nil
  |.sl kE ji fr'=>cw (!fr||fr') ((ji.Nil\/kE=sz)/\ai.Eq ji es)
  |.all r=>match R.getD r none with
   |some ⟨box,_,kE,ji⟩=>cw (!box&&bT kE sz&&KN ex r&&gT m r) (ai.Eq ji es)
   |none=>False
  |.own r o n=>match R.getD r none with
   |some ⟨box,_,kE,ji⟩=>cw (!box&&bT kE sz&&KN ex r&&gT m r) (ai.Eq ((ji.drop o).take n) es)
   |none=>False
  |_=>False
 |.all i=>match d with|.all r=>cw (kL ex i r) True|.du=>cw (IQ ex R i) True|.emp=>cw (IQ ex R i) True|_=>False
 |.own i o n=>match d with|.own r o' n'=>cw (kL ex i r) (o'=o/\n'=n)|_=>False
 |.dead=>cw d.HN True
 |_=>False
def Fi(ex:List Nat)(m:Nat)(R:Rows):List D->List D->Prop
 |[],[]=>True
 |d::ds,p::ps=>jD ex m R d p/\Fi ex m R ds ps
 |_,_=>False
def ry(ex:List Nat)(m:Nat)(R:Rows)(d p:D):Prop:=
 match p with
 |.agg ps=>match d with|.agg ds=>Fi ex m R ds ps|_=>False
 |p=>jD ex m R d p
def wM(ex:List Nat)(m:Nat)(R:Rows):List D->List D->Prop
 |[],[]=>True
 |d::ds,p::ps=>ry ex m R d p/\wM ex m R ds ps
 |_,_=>False
def Ay(ex:List Nat)(m:Nat)(R:Rows)(d p:D):Prop:=
 match p with
 |.dt ps=>match d with|.dt ds=>wM ex m R ds ps|_=>False
 |p=>ry ex m R d p
def nc(ex:List Nat)(m:Nat)(R:Rows):List Nat->List Row->Prop
 |[],[]=>True
 |r ::rs,⟨box,ty,sz,es⟩::ps=>(match R.getD r none with
  |some ⟨AE,j6,kE,ji⟩=>cw (Bool.xor (!box) AE&&bT ty j6&&bT sz kE) (match box with
   |false=>ai.Eq ji es
   |true=>match ji,es with|.gen [e'],.gen [e]=>Fi ex m R e' e|_,_=>False)
  |none=>cw (!box&&bJ 0 sz) es.Nil)/\nc ex m R rs ps
 |_,_=>False
def newAt(n0:Nat):List (Nat×Nat)->Nat->Nat
 |[],i=>n0+i
 |(j,r)::l,i=>match bT j i with|true=>r|false=>newAt n0 l i
def news(n0:Nat)(l:List (Nat×Nat)):Nat->Nat->List Nat
 |_,0=>[]
 |i,n+1=>newAt n0 l i::news n0 l (i+1) n
def Af:List Nat->List Nat->Bool
 |[],[]=>true
 |x::l,y::m=>bT x y&&Af l m
 |_,_=>false
def Az(M:Nat)(ex:List Nat):Bool:=(Af (ex.take M) (dB M)&&(ex.drop M).all λr=>gT M r)&&EE (ex.drop M)
def AG(m:Nat)(res:D)(rows:List Row)(d:D)(R:Rows):Prop:=
 ∃ex,Az m ex=true/\Ay ex m R d res/\nc ex m R ex rows
def F4:List D->Nat->List (Nat×D)
 |[],_=>[]
 |d::ds,i=>(i,d)::F4 ds (i+1)
def nz(T:fj)(G:List bb)(L:Code->St->(Ex->St->Prop)->Prop)(fn:Func)(args:List D)(rows:List Row)(Q:D->Rows->Prop):Prop:=
 match fn.body with
 |some c=>pk T G fn.ntmps rows.length L c ⟨F4 args 0,rows.map some⟩ λe st=>match e with
  |.exit _=>False
  |_=>F5 T st.rows st.env fn.results.toList λds=>match ds with|[d]=>Q d st.rows|ds=>Q (.dt ds) st.rows
 |none=>False
def oJ:List Nat->List D->List (Nat×D)
 |t::ts,d::ds=>(t,d)::oJ ts ds
 |_,_=>[]
def Ba:List iz->List Nat
 |[]=>[]
 |.fn f _::l=>f::Ba l
 |_::l=>Ba l
def Bb:D->List Nat|.gj f cs=>f::Ba cs|_=>[]
def rJ:List D->List Nat
 |[]=>[]
 |d::l=>Bb d++rJ l
def FU:D->List Nat|.agg cs=>rJ cs|d=>Bb d
def pI:List D->List Nat
 |[]=>[]
 |d::l=>FU d++pI l
def De:D->List Nat|.dt ds=>pI ds|d=>FU d
def lr:List Row->List Nat
 |[]=>[]
 |⟨true,_,_,.gen [e]⟩::l=>rJ e++lr l
 |_::l=>lr l
def Gr:Rows->List Nat
 |[]=>[]
 |some r::l=>lr [r]++Gr l
 |none::l=>Gr l
def sI(l:List Nat):Bool:=l.all λf=>bJ f YB
def AB:List (Nat×D)->List Nat
 |[]=>[]
 |(_,d)::l=>De d++AB l
def J0 (T:fj)(G:List bb)(L:Code->St->(Ex->St->Prop)->Prop)(fn:Func)(args:List D)(rows:List Row)(Q:D->Rows->Prop)(M:Nat):Prop:=
 match fn.body with
 |some c =>match gT YB fn.nfree with
  |true =>match bT fn.nfree YB with
   |true=>pk T G fn.ntmps M L c ⟨oJ fn.params.toList args,rows.map some⟩ λe st=>match e with
    |.normal=>Q (.bool true) st.rows
    |_=>False
   |false=>match c with
    |.seq a b=>pk T G fn.ntmps M L a ⟨oJ fn.params.toList args,rows.map some⟩ λe st=>match e with
     |.normal=>cw (sI (AB st.env++Gr st.rows)) (pk T G fn.ntmps M L b st λe st=>match e with
      |.normal=>Q (.bool true) st.rows
      |_=>False)
     |_=>False
    |_=>False
  |false=>pk T G fn.ntmps M L c ⟨F4 args 0,rows.map some⟩ λe st=>match e with
  |.exit _=>False
  |_=>F5 T st.rows st.env fn.results.toList λds=>match ds with|[d]=>Q d st.rows|ds=>Q (.dt ds) st.rows
 |none=>False
