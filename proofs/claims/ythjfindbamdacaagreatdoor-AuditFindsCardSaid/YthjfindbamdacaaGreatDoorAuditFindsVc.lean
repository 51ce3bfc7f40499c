import Derived.Test.YthjfindbamdacaaGreatDoorAuditFindsFy
open Nat renaming beq->bT,blt->bJ,ble->gR
open BitVec renaming ofInt->dW
open List renaming range->dD
set_option linter.all false
namespace Go.GD
open Go
def cj(b:Bool)(p:Prop):Prop:=match b with|true=>p|false=>False
def DG(b:Bool)(p q:Prop):Prop:=match b with|true=>p|false=>q
theorem da{b:Bool}{p:Prop}:cj b p↔b=true/\p:=by cases b<;>simp[cj]
theorem Zgg{b:Bool}{p q:Prop}:DG b p q↔(b=true->p)/\(b=false->q):=by cases b<;>simp[DG]
abbrev Rows:=List (Option Row)
namespace D
def FP(n:Nat):D->Bool|.sl m _ _=>bT m n|.du=>true|.emp=>true|_=>false
def toEs:D->ao|.sl _ es _=>es|_=>.gen []
def uW:D->Bool|.agg _=>false|.dt _=>false|.dead=>false|_=>true
def isVal:D->Bool|.dt _=>false|.dead=>false|_=>true
def HL:D->Bool|.agg _=>false|.dt _=>false|_=>true
def plain:D->Bool|.bool _=>true|.int _ _=>true|.str _=>true|.iK=>true|.du=>true|.emp=>true|.sl _ _ _=>true|_=>false
def cells:D->List D|.agg cs=>cs|d=>[d]
def force:D->(D->Prop)->Prop
 |.bool b,K=>K (.bool b)
 |.int k n,K=>K (.int k n)
 |.str s,K=>K (.str s)
 |.sl a b c,K=>K (.sl a b c)
 |.all a,K=>K (.all a)
 |.own a b c,K=>K (.own a b c)
 |.ptr a b c,K=>K (.ptr a b c)
 |.pa a b c d e f,K=>K (.pa a b c d e f)
 |.ir a b c d,K=>K (.ir a b c d)
 |.iK,K=>K .iK
 |.du,K=>K .du
 |.emp,K=>K .emp
 |.pY es,K=>K (.pY es)
 |.dead,K=>K .dead
 |.gn a b,K=>K (.gn a b)
 |.c8 a,K=>K (.c8 a)
 |.jI,K=>K .jI
 |.agg a,K=>K (.agg a)
 |.dt a,K=>K (.dt a)
end D
def D.jV:List D->(List D->Prop)->Prop
 |[],K=>K []
 |d::l,K=>d.force λd=>jV l λl=>K (d::l)
def tK:Rows->(Rows->Prop)->Prop
 |[],K=>K []
 |d::l,K=>tK l λl=>K (d::l)
inductive rb where
 |int (k:IntKind)|bool|str|sl (n:Nat)|other
inductive TK where
 |int (k:IntKind)|bool|string
 |slice (e:TypeId) (n:Nat)
 |struct (fs:List (Nat×TypeId×Nat))
 |array (len:Nat) (e:TypeId) (n:Nat)
 |other
structure TI where
 kind:TK
 size:Nat
 bytes:Nat
 sR:List rb
 zero:Option (List D)
 eq:Bool
abbrev fq:=List (TypeId×TI)
def fq.get:fq->TypeId->Option TI
 |[],_=>none
 |(u,i)::l,t=>match bT u t with|true=>some i|false=>fq.get l t
def TK.isAgg:TK->Bool|.struct _=>true|.array _ _ _=>true|_=>false
def uG(pl:Bool):rb->D->(D->Prop)->Prop
 |.int k,c,K=>cj (c.isInt k) (K (.int k c.toInt))
 |.bool,c,K=>cj c.isBool (K (.bool c.toBool))
 |.str,c,K=>cj c.isStr (K (.str c.toStr))
 |.sl n,c,K=>match pl with
  |true=>cj (c.FP n) (K (.sl n c.toEs false))
  |false=>cj c.uW (c.force K)
 |.other,c,K=>match pl with
  |true=>match c with|.iK=>K .iK|_=>False
  |false=>cj c.uW (c.force K)
def JF(pl:Bool)(e:List D):List rb->Nat->(List D->Prop)->Prop
 |[],_,K=>K []
 |t::ts,off,K=>uG pl t (e.getD off .dead) λd=>JF pl e ts (off+1) λds=>K (d::ds)
def uH(pl:Bool)(t:TI)(e:List D)(off:Nat)(K:D->Prop):Prop:=
 match t.kind.isAgg with
 |true=>JF pl e t.sR off λds=>K (.agg ds)
 |false=>match t.sR with
  |[y]=>uG pl y (e.getD off .dead) K
  |_=>False
def lh:List D->Nat->List D->List D
 |e,_,[]=>e
 |e,off,v::vs=>lh (e.set off v) (off+1) vs
def QA:Value->Option D
 |.bool b=>some (.bool b)
 |.int k n=>some (.int k n)
 |.string s=>some (.str s.data.toList)
 |.slice none 0 0=>some .du
 |.pointer none=>some .iK
 |.nilIface=>some .jI
 |.nilFunc=>some .dead
 |_=>none
def Bt:List Value->Option (List D)
 |[]=>some []
 |v::vs=>match QA v,Bt vs with|some d,some ds=>some (d::ds)|_,_=>none
def Gd:Value->Option D
 |.agg cs=>(Bt cs.toList).map .agg
 |v=>QA v
structure St where
 env:List (Nat×D)
 rows:Rows
def look:List (Nat×D)->Nat->D
 |[],_=>.dead
 |(u,d)::l,t=>match bT u t with|true=>d|false=>look l t
def bq(env:List (Nat×D)):Operand->D
 |.tmp t=>look env t
 |.const v=>(Gd v).getD .dead
 |.func f=>match bJ f YB with|true=>.gn f []|false=>.dead
 |_=>.dead
def bf(k:IntKind)(x y:Int):Int:=k.wrap (dW k.bits x&&&dW k.bits y).toNat
def iq(k:IntKind)(x y:Int):Int:=k.wrap (dW k.bits x|||dW k.bits y).toNat
def jN(k:IntKind)(x y:Int):Int:=k.wrap (dW k.bits x^^^dW k.bits y).toNat
def nQ(k:IntKind)(x y:Int):Int:=k.wrap (dW k.bits x&&&~~~dW k.bits y).toNat
def eg(k:IntKind)(x y:Int):Int:=k.wrap (x*2^(min y.toNat k.bits))
def bg(k:IntKind)(x y:Int):Int:=x.fdiv (2^(min y.toNat k.bits))
def US(op:BinOp)(k:IntKind)(x y:Int)(K:D->Prop):Prop:=
 match op with
 |.add=>K (.int k (k.wrap (x+y)))
 |.sub=>K (.int k (k.wrap (x-y)))
 |.mul=>K (.int k (k.wrap (x*y)))
 |.quo=>cj (decide (y≠0)) (K (.int k (k.wrap (x.tdiv y))))
 |.rem=>cj (decide (y≠0)) (K (.int k (x.tmod y)))
 |.and=>K (.int k (bf k x y))
 |.or=>K (.int k (iq k x y))
 |.xor=>K (.int k (jN k x y))
 |.andNot=>K (.int k (nQ k x y))
 |.eql=>K (.bool (x==y))
 |.neq=>K (.bool (x !=y))
 |.lss=>K (.bool (decide (x<y)))
 |.leq=>K (.bool (decide (x<=y)))
 |.gtr=>K (.bool (decide (x>y)))
 |.geq=>K (.bool (decide (x>=y)))
 |_=>False
def UY:D->D->Bool
 |.int _ a,.int _ b=>a==b
 |.bool a,.bool b=>a==b
 |.str a,.str b=>decide (a=b)
 |_,_=>false
def eqs:List D->List D->Bool
 |[],_=>true
 |a::l,b::m=>UY a b&&eqs l m
 |_::_,[]=>false
def fits:List rb->List D->Bool
 |[],[]=>true
 |.int k::t,d::l=>d.isInt k&&fits t l
 |.bool::t,d::l=>d.isBool&&fits t l
 |.str::t,d::l=>d.isStr&&fits t l
 |_,_=>false
def sS(T:fq)(op:BinOp)(t:TypeId)(x y:D)(K:D->Prop):Prop:=
 match x,y with
 |.int k a,.int k' b=>
  match op with
  |.shl=>cj (decide (0<=b)) (K (.int k (eg k a b)))
  |.shr=>cj (decide (0<=b)) (K (.int k (bg k a b)))
  |op=>cj (decide (k=k')) (US op k a b K)
 |.str a,.str b=>
  match op with
  |.add=>cj (decide (a.length+b.length<=maxLen)) (K (.str (a++b)))
  |.eql=>K (.bool (decide (a=b)))
  |.neq=>K (.bool (!decide (a=b)))
  |_=>False
 |.bool a,.bool b=>
  match T.get t with
  |some ⟨.bool,_,_,_,_,_⟩=>match op with
   |.eql=>K (.bool (a==b))
   |.neq=>K (.bool (!(a==b)))
   |_=>False
  |_=>False
 |.agg a,.agg b=>
  match T.get t with
  |some ti=>cj (ti.kind.isAgg&&bJ 0 ti.size&&ti.eq&&fits ti.sR a&&fits ti.sR b)<|
   match op with
   |.eql=>K (.bool (eqs a b))
   |.neq=>K (.bool (!(eqs a b)))
   |_=>False
  |none=>False
 |_,_=>False
def Mx(T:fq)(s d:TypeId)(x:D)(K:D->Prop):Prop:=
 match T.get s,T.get d with
 |some ⟨.int _,_,_,_,_,_⟩,some ⟨.int k,_,_,_,_,_⟩=>match x with
  |.int _ n=>K (.int k (k.wrap n))
  |_=>False
 |some ⟨.string,_,_,_,_,_⟩,some ⟨.string,_,_,_,_,_⟩=>match x with
  |.str s=>K (.str s)
  |_=>False
 |_,_=>False
def P7(T:fq)(s:TypeId)(f:Nat):Option (Nat×TypeId×Nat):=
 match T.get s with
 |some ⟨.struct fs,_,_,_,_,_⟩=>fs[f]?
 |_=>none
def FV(place:Nat->Option (Nat×Nat))(ev:Operand->D):List (Nat×Operand)->List D->(List D->Prop)->Prop
 |[],cs,K=>D.jV cs K
 |(i,x)::ps,cs,K=>match place i with
  |some (off,n)=>cj ((ev x).isVal&&bT (ev x).cells.length n&&gR (off+n) cs.length) (FV place ev ps (lh cs off (ev x).cells) K)
  |none=>False
def D.QG:D->D|.sl a b _=>.sl a b false|d=>d
def HG:List D->List D
 |[]=>[]
 |d::l=>d.QG::HG l
def HH(n len:Nat)(ev:Operand->D):List (Nat×Operand)->List (List D)->(List (List D)->Prop)->Prop
 |[],es,K=>K es
 |(i,x)::ps,es,K=>cj (((ev x).isVal&&(HG (ev x).cells).all D.plain)&&bT (HG (ev x).cells).length n&&bJ i len) (HH n len ev ps (es.set i (HG (ev x).cells)) K)
def wV(row:Row):Rows->Nat->(Nat->Rows->Prop)->Prop
 |[],n,K=>K n [some row]
 |x::l,n,K=>wV row l (n+1) λk l=>K k (x::l)
def AU(R:Rows)(row:Row)(K:Nat->Rows->Prop):Prop:=wV row R 0 K
def ints(e:List D)(off:Nat):Nat->List Int
 |0=>[]
 |n+1=>(e.getD off .dead).toInt::ints e (off+1) n
def bo(e:List D)(off:Nat):Nat->List Bool
 |0=>[]
 |n+1=>(e.getD off .dead).toBool::bo e (off+1) n
def CO(k:IntKind)(e:List D)(off:Nat):Nat->Bool
 |0=>true
 |n+1=>(e.getD off .dead).isInt k&&CO k e (off+1) n
def Hw(e:List D)(off:Nat):Nat->Bool
 |0=>true
 |n+1=>(e.getD off .dead).isBool&&Hw e (off+1) n
def HD(k:IntKind)(l:List Int)(j:Nat):Nat->List D
 |0=>[]
 |n+1=>.int k (l.getD j 0)::HD k l (j+1) n
def HE(l:List Bool)(j:Nat):Nat->List D
 |0=>[]
 |n+1=>.bool (l.getD j false)::HE l (j+1) n
def wW(T:fq)(t:TypeId)(x:D)(R:Rows)(K:D->Rows->Prop):Prop:=
 match T.get t with
 |none=>False
 |some ti=>match x with
  |.ptr r i off=>match R.getD r none with
   |some ⟨box,_,sz,es⟩=>cj (gR (off+ti.size) sz) (uH (!box) ti (es.get i) off λd=>K d R)
   |none=>False
  |.pa r i off len k n=>match R.getD r none with
   |some ⟨_,_,sz,es⟩=>cj (gR (off+len) sz)<|match ti.kind,k with
    |.int j,some k=>cj (decide (j=k)&&CO k (es.get i) off len) (K (.int k ((ints (es.get i) off len).getD n 0)) R)
    |.bool,none=>cj (Hw (es.get i) off len) (K (.bool ((bo (es.get i) off len).getD n false)) R)
    |_,_=>False
   |none=>False
  |.ir sz es i off=>cj (gR (off+ti.size) sz) (uH true ti (es.get i) off λd=>K d R)
  |_=>False
def HF(T:fq)(t:TypeId)(x d:D)(R:Rows)(K:D->Rows->Prop):Prop:=
 match T.get t with
 |none=>False
 |some ti=>match x with
  |.ptr r i off=>match R.getD r none with
   |some ⟨box,ty,sz,es⟩=>cj (bJ 0 ti.size&&d.isVal&&bT d.cells.length ti.size&&gR (off+ti.size) sz)<|match box with
    |true=>D.jV (lh (es.get i) off d.cells) λe=>tK (R.set r (some ⟨true,ty,sz,.gen [e]⟩)) λR=>K .dead R
    |false=>cj (d.cells.all D.plain) (tK (R.set r (some ⟨false,ty,sz,es.set i (lh (es.get i) off d.cells)⟩)) λR=>K .dead R)
   |none=>False
  |.pa r i off len k n=>match R.getD r none with
   |some ⟨box,ty,sz,es⟩=>cj (box&&gR (off+len) sz)<|match ti.kind,k,d with
    |.int j,some k,.int k' v=>cj (decide (j=k)&&decide (k'=k)&&CO k (es.get i) off len)<|
     D.jV (lh (es.get i) off (HD k ((ints (es.get i) off len).set n v) 0 len)) λe=>tK (R.set r (some ⟨true,ty,sz,.gen [e]⟩)) λR=>K .dead R
    |.bool,none,.bool v=>cj (Hw (es.get i) off len)<|
     D.jV (lh (es.get i) off (HE ((bo (es.get i) off len).set n v) 0 len)) λe=>tK (R.set r (some ⟨true,ty,sz,.gen [e]⟩)) λR=>K .dead R
    |_,_,_=>False
   |none=>False
  |_=>False
def UU(T:fq)(t:TypeId)(x:D)(UT:Bool)(n:Int)(R:Rows)(K:D->Rows->Prop):Prop:=
 match T.get t with
 |some ⟨.slice _ iL,_,_,_,_,_⟩=>match x with
  |.sl sz es _=>cj (bT sz iL&&bJ 0 iL&&decide (0<=n/\n<es.len)) (K (.ir sz es n.toNat 0) R)
  |.own r o m=>match R.getD r none with
   |some ⟨_,_,sz,_⟩=>cj (bT sz iL&&bJ 0 iL&&decide (0<=n/\n<m)) (K (.ptr r (o+n.toNat) 0) R)
   |none=>False
  |.all r=>match R.getD r none with
   |some ⟨_,_,sz,es⟩=>cj (bT sz iL&&bJ 0 iL&&decide (0<=n/\n<es.len)) (K (.ptr r n.toNat 0) R)
   |none=>False
  |_=>False
 |some ⟨.array len e iL,_,_,_,_,_⟩=>cj (bJ 0 iL&&decide (0<=n/\n<len))<|match x with
  |.ptr r i off=>match UT with
   |true=>K (.ptr r i (off+n.toNat*iL)) R
   |false=>match T.get e with
    |some ⟨.int k,_,_,_,_,_⟩=>cj (bT iL 1) (K (.pa r i off len (some k) n.toNat) R)
    |some ⟨.bool,_,_,_,_,_⟩=>cj (bT iL 1) (K (.pa r i off len none n.toNat) R)
    |_=>K (.ptr r i (off+n.toNat*iL)) R
  |.ir sz es i off=>K (.ir sz es i (off+n.toNat*iL)) R
  |_=>False
 |_=>False
def rY(x:Option Operand)(ev:Operand->D)(n:Int):Option Int:=match x with|none=>some n|some y=>match ev y with|.int _ m=>some m|_=>none
def My(T:fq)(t:TypeId)(x:D)(lo hi:Option Operand)(ev:Operand->D)(R:Rows)(K:D->Rows->Prop):Prop:=
 match T.get t with
 |some ⟨.string,_,_,_,_,_⟩=>match x with
  |.str s=>match rY lo ev 0,rY hi ev s.length with
   |some l,some h=>cj (decide (0<=l/\l<=h/\h<=s.length)) (K (.str ((s.drop l.toNat).take (h.toNat-l.toNat))) R)
   |_,_=>False
  |_=>False
 |some ⟨.slice _ iL,_,_,_,_,_⟩=>match x with
  |.sl sz es fr=>match rY lo ev 0,rY hi ev es.len with
   |some l,some h=>cj (bT sz iL&&bJ 0 iL&&decide (0<=l/\l<=h/\h<=es.len)) (K (.sl sz ((es.drop l.toNat).take (h.toNat-l.toNat)) fr) R)
   |_,_=>False
  |.all r=>match R.getD r none with
   |some ⟨_,_,sz,es⟩=>match rY lo ev 0,rY hi ev es.len with
    |some l,some h=>cj (bT sz iL&&bJ 0 iL&&decide (0<=l/\l<=h/\h<=es.len)) (K (.own r l.toNat (h.toNat-l.toNat)) R)
    |_,_=>False
   |none=>False
  |.own r o n=>match R.getD r none with
   |some ⟨_,_,sz,_⟩=>match rY lo ev 0,rY hi ev n with
    |some l,some h=>cj (bT sz iL&&bJ 0 iL&&decide (0<=l/\l<=h/\h<=n)) (K (.own r (o+l.toNat) (h.toNat-l.toNat)) R)
    |_,_=>False
   |none=>False
  |_=>False
 |some ⟨.array len e iL,_,_,_,_,_⟩=>match x,lo,hi with
  |.ir sz es i off,none,none=>match T.get e with
   |some ⟨.int k,_,_,_,_,_⟩=>cj (bT iL 1&&(gR (off+len) sz&&CO k (es.get i) off len)) (K (.sl 1 (.ints k (ints (es.get i) off len)) false) R)
   |_=>False
  |_,_,_=>False
 |_=>False
def uK(T:fq)(t:TypeId)(n m:Int)(R:Rows)(K:D->Rows->Prop):Prop:=
 match T.get t with
 |some ⟨.slice e _,_,_,_,_,_⟩=>match T.get e with
  |some ⟨_,sz,lO,_,some z,_⟩=>cj (bJ 0 sz&&bT z.length sz&&z.all D.plain&&decide (0<=n/\n<=m/\m<=9223372036854775807/\(lO:Int)*m<=140737488355328))
   (AU R ⟨false,e,sz,ao.FW e n.toNat z⟩ λk R=>K (.all k) R)
  |_=>False
 |_=>False
def sX(T:fq)(t:TypeId)(x:D)(R:Rows)(K:D->Rows->Prop):Prop:=
 match T.get t with
 |some ⟨.string,_,_,_,_,_⟩=>match x with
  |.str s=>K (.int .i64 s.length) R
  |_=>False
 |some ⟨.slice _ _,_,_,_,_,_⟩=>match x with
  |.sl _ es _=>K (.int .i64 es.len) R
  |.own _ _ n=>K (.int .i64 n) R
  |.all r=>match R.getD r none with
   |some ⟨_,_,_,es⟩=>K (.int .i64 es.len) R
   |none=>False
  |.du=>K (.int .i64 0) R
  |.emp=>K (.int .i64 0) R
  |_=>False
 |_=>False
def Mz(T:fq)(t:TypeId)(parts:List (Nat×Operand))(ev:Operand->D)(R:Rows)(K:D->Rows->Prop):Prop:=
 match T.get t with
 |some ⟨.struct fs,_,_,_,some ds,_⟩=>cj (fs.all λf=>bJ 0 f.2.2)<|FV (λi=>(fs[i]?).map λf=>(f.1,f.2.2)) ev parts ds λcs=>K (.agg cs) R
 |some ⟨.array _ _ iL,_,_,_,some ds,_⟩=>cj (bJ 0 iL)<|FV (λi=>some (i*iL,iL)) ev parts ds λcs=>K (.agg cs) R
 |_=>False
def MA(T:fq)(t:TypeId)(len:Nat)(parts:List (Nat×Operand))(ev:Operand->D)(R:Rows)(K:D->Rows->Prop):Prop:=
 match T.get t with
 |some ⟨.slice e _,_,_,_,_,_⟩=>match T.get e with
  |some ⟨_,sz,_,_,some z,_⟩=>cj (bJ 0 sz&&bT z.length sz&&gR (len*sz) 16777216&&z.all D.plain)<|
   HH sz len ev parts (List.replicate len z) λes=>match len with|0=>K .emp R|_+1=>K (.sl sz (ao.ofT e es) true) R
  |_=>False
 |_=>False
def Hx:iu->Option (Nat×Nat×Nat)|.ptr r i off=>some (r,i,off)|_=>none
def PZ:List iu->Option (List (Nat×Nat×Nat))
 |[]=>some []
 |x::l=>match Hx x,PZ l with|some p,some ps=>some (p::ps)|_,_=>none
def CQ:D->Option iu
 |.ptr r i off=>some (.ptr r i off)
 |.int k n=>some (.int k n)
 |.all r=>some (.arr r)
 |.sl a b fr=>some (.sl a b fr)
 |.gn f cs=>match PZ cs with|some ps=>some (.fn f ps)|none=>none
 |_=>none
def KD:List D->Option (List iu)
 |[]=>some []
 |d::l=>match CQ d,KD l with|some x,some xs=>some (x::xs)|_,_=>none
def ie(T:fq)(o:Op)(ev:Operand->D)(R:Rows)(K:D->Rows->Prop):Prop:=
 match o with
 |.move x|.assign x=>(ev x).force λd=>K d R
 |.alloc t=>match T.get t with
  |some ⟨_,sz,_,_,some ds,_⟩=>cj (bJ 0 sz&&bT ds.length sz) (AU R ⟨true,t,sz,.gen [ds]⟩ λk R=>K (.ptr k 0 0) R)
  |_=>False
 |.box t x=>match T.get t with
  |some ⟨_,sz,_,_,_,_⟩=>cj (bJ 0 sz&&(ev x).isVal&&bT (ev x).cells.length sz) (D.jV (ev x).cells λcs=>AU R ⟨true,t,sz,.gen [cs]⟩ λk R=>K (.ptr k 0 0) R)
  |none=>False
 |.build t parts=>Mz T t parts.toList ev R K
 |.buildSlice t len parts=>MA T t len parts.toList ev R K
 |.load t a=>wW T t (ev a) R K
 |.store t a x=>HF T t (ev a) (ev x) R K
 |.nilCheck x=>match ev x with
  |.ptr a b c=>K (.ptr a b c) R
  |.ir a b c d=>K (.ir a b c d) R
  |_=>False
 |.binOp op t x y _=>sS T op t (ev x) (ev y) λd=>K d R
 |.unOp op _ x=>match op,ev x with
  |.neg,.int k n=>K (.int k (k.wrap (0-n))) R
  |.xor,.int k n=>K (.int k (jN k (if k.signed then-1 else k.max) n)) R
  |.not,.bool b=>K (.bool (!b)) R
  |_,_=>False
 |.convert s d x=>Mx T s d (ev x) λv=>K v R
 |.fieldAddr s x f=>match P7 T s f with
  |some (o,_,n)=>cj (bJ 0 n)<|match ev x with
   |.ptr r i off=>K (.ptr r i (off+o)) R
   |.ir sz es i off=>K (.ir sz es i (off+o)) R
   |_=>False
  |none=>False
 |.field s x f=>match P7 T s f with
  |some (o,t,n)=>match ev x,T.get t with
   |.agg cs,some ti=>cj (bJ 0 n&&gR (o+n) cs.length)<|match ti.kind.isAgg with
    |true=>D.jV ((cs.drop o).take n) λl=>K (.agg l) R
    |false=>cj (cs.getD o .dead).uW ((cs.getD o .dead).force λd=>K d R)
   |_,_=>False
  |none=>False
 |.indexAddr t x ix=>match ev ix with
  |.int _ n=>UU T t (ev x) (match ix with|.const _=>true|_=>false) n R K
  |_=>False
 |.index t x ix=>match T.get t,ev x,ev ix with
  |some ⟨.string,_,_,_,_,_⟩,.str s,.int _ n=>cj (decide (0<=n/\n<s.length)) (K (.int .u8 ((s.getD n.toNat 0).toNat:Int)) R)
  |some ⟨.array len e iL,_,_,_,_,_⟩,.agg cs,.int _ n=>cj (bT iL 1&&(bT cs.length len&&decide (0<=n/\n<len)))<|match T.get e with
   |some ⟨.int k,_,_,_,_,_⟩=>cj (CO k cs 0 len) (K (.int k ((ints cs 0 len).getD n.toNat 0)) R)
   |some ⟨.bool,_,_,_,_,_⟩=>cj (Hw cs 0 len) (K (.bool ((bo cs 0 len).getD n.toNat false)) R)
   |_=>False
  |_,_,_=>False
 |.extract x i=>match ev x with
  |.dt ds=>cj (ds.getD i .dead).isVal ((ds.getD i .dead).force λd=>K d R)
  |_=>False
 |.slice t x lo hi none=>My T t (ev x) lo hi ev R K
 |.makeSlice t l c=>match ev l,ev c with
  |.int _ n,.int _ m=>uK T t n m R K
  |_,_=>False
 |.call {callee:=.builtin .len,args,argTypes}=>match args.toList,argTypes.toList with
  |[x],[t]=>sX T t (ev x) R K
  |_,_=>False
 |.makeFunc fn first captured=>match fn with
  |.func f=>cj (bT first.size 0&&bJ f YB)<|match KD (captured.toList.map ev)with
   |some cs=>K (.gn f cs) R
   |none=>False
  |_=>False
 |_=>False
def pos(r:Nat):List Nat->Nat->Nat
 |[],k=>k
 |x::l,k=>match bT x r with|true=>k|false=>pos r l (k+1)
def bw(r:Nat):List Nat->Bool
 |[]=>false
 |x::l=>match bT x r with|true=>true|false=>bw r l
def pC:List Nat->List Nat->Bool
 |[],_=>true
 |x::l,m=>match bw x m with|true=>pC l m|false=>false
def nN:List Nat->List Nat->Bool
 |[],_=>true
 |x::l,m=>match bw x m with|true=>false|false=>nN l m
def lI:List Nat->List Nat->List Nat
 |ids,[]=>ids
 |ids,x::l=>match bw x ids with|true=>lI ids l|false=>lI (ids++[x]) l
def Ep:List Nat->Bool
 |[]=>true
 |x::l=>match bw x l with|true=>false|false=>Ep l
def CM:iu->List Nat|.ptr r _ _=>[r]|.arr r=>[r]|.fn _ ps=>ps.map (·.1)|_=>[]
def oz:List iu->List Nat
 |[]=>[]
 |x::l=>CM x++oz l
def iu.jg(f:Nat->Nat)(cr:Bool):iu->iu
 |.ptr r i off=>.ptr (f r) i off
 |.int k n=>.int k n
 |.arr r=>.arr (f r)
 |.sl a b fr=>.sl a b (fr&&cr)
 |.fn g ps=>.fn g (ps.map λp=>(f p.1,p.2))
def nM:D->List Nat|.gn _ cs=>oz cs|.c8 r=>[r]|.all r=>[r]|.own r _ _=>[r]|.ptr r _ _=>[r]|.pa r _ _ _ _ _=>[r]|_=>[]
def pU:List D->List Nat
 |[]=>[]
 |d::l=>nM d++pU l
def FM:D->List Nat|.agg cs=>pU cs|d=>nM d
def D.ei(ks:List Nat):D->D
 |.all r=>match bw r ks with|true=>.dead|false=>.all r
 |.own r o n=>match bw r ks with|true=>.dead|false=>.own r o n
 |.ptr r i off=>match bw r ks with|true=>.dead|false=>.ptr r i off
 |.pa r i off l k n=>match bw r ks with|true=>.dead|false=>.pa r i off l k n
 |.c8 r=>match bw r ks with|true=>.dead|false=>.c8 r
 |.gn f cs=>match nN (oz cs) ks with|true=>.gn f cs|false=>.dead
 |d=>d
def D.kA(ks:List Nat):List D->List D
 |[]=>[]
 |d::l=>d.ei ks::kA ks l
def D.kill(ks:List Nat):D->D
 |.agg cs=>.agg (D.kA ks cs)
 |d=>d.ei ks
def D.pL(ks:List Nat):List D->List D
 |[]=>[]
 |d::l=>d.kill ks::pL ks l
def D.gq(ks:List Nat):D->D
 |.dt ds=>.dt (D.pL ks ds)
 |d=>d.kill ks
def Row.kill(ks:List Nat):Row->Row
 |⟨true,ty,sz,.gen [e]⟩=>⟨true,ty,sz,.gen [D.kA ks e]⟩
 |r=>r
def rV(ks:List Nat):Rows->Nat->Rows
 |[],_=>[]
 |x::l,i=>(match bw i ks with|true=>none|false=>match x with|some row=>some (row.kill ks)|none=>none)::rV ks l (i+1)
def Gm(ks:List Nat):List (Nat×D)->(List (Nat×D)->Prop)->Prop
 |[],K=>K []
 |(t,d)::l,K=>(d.gq ks).force λd=>Gm ks l λl=>K ((t,d)::l)
def Q2(s:List UInt8):List Int:=s.map λb=>(b.toNat:Int)
def bytesOf(l:List Int):List UInt8:=l.map λn=>UInt8.ofNat n.toNat
def su(R:Rows):D->Option (Nat×ao)
 |.du=>some (0,.gen [])
 |.emp=>some (0,.gen [])
 |.sl sz es _=>some (sz,es)
 |.all r=>match R.getD r none with|some ⟨false,_,sz,es⟩=>some (sz,es)|_=>none
 |.own r o n=>match R.getD r none with|some ⟨false,_,sz,es⟩=>some (sz,(es.drop o).take n)|_=>none
 |_=>none
def CE(R:Rows)(ke kx:TK)(y:D):Option (Nat×ao):=
 match kx with
 |.slice _ _=>su R y
 |.string=>match ke,y with
  |.int .u8,.str s=>some (1,.ints .u8 (Q2 s))
  |_,_=>none
 |_=>none
def IE:ao->Bool|.gen []=>true|_=>false
def CG(e sz lO:Nat)(R:Rows)(ks:List Nat)(es ys:ao)(K:List Nat->D->Rows->Prop):Prop:=
 cj (decide (lO*(es.len+ys.len)<=140737488355328))<|tK (rV ks R 0++[some ⟨false,e,sz,es.app ys⟩]) λR'=>K ks (.all R.length) R'
def Mj (T:fq)(M:Nat)(t tx:TypeId)(x y:D)(R:Rows)(K:List Nat->D->Rows->Prop):Prop:=
 match T.get t with
 |some ⟨.slice e iL,_,_,_,_,_⟩=>match T.get e,T.get tx with
  |some ⟨ke,sz,lO,_,some z,_⟩,some ⟨kx,_,_,_,_,_⟩=>match CE R ke kx y with
   |some (sy,ys)=>cj ((bJ 0 sz&&bT iL sz)&&(bT z.length sz&&z.all D.plain)&&(bJ 0 lO&&(bT sy sz||IE ys)))<|
    match x with
    |.du=>CG e sz lO R [] (.gen []) ys K
    |.emp=>CG e sz lO R [] (.gen []) ys K
    |.all r=>match R.getD r none with
     |some ⟨false,ty,s,es⟩=>cj ((bT s sz&&bT ty e)&&gR M r) (CG e sz lO R [r] es ys K)
     |_=>False
    |.own r o n=>match R.getD r none with
     |some ⟨false,ty,s,es⟩=>cj ((bT s sz&&bT ty e)&&(gR M r&&bT o 0)) (CG e sz lO R [r] (es.take n) ys K)
     |_=>False
    |_=>False
   |none=>False
  |_,_=>False
 |_=>False
def tT(T:fq)(t tx:TypeId)(x y:D)(R:Rows)(K:D->Rows->Prop):Prop:=
 match T.get t with
 |some ⟨.slice e iL,_,_,_,_,_⟩=>match T.get e,T.get tx with
  |some ⟨ke,sz,_,_,_,_⟩,some ⟨kx,_,_,_,_,_⟩=>match CE R ke kx y with
   |some (sy,ys)=>cj ((bJ 0 sz&&bT iL sz)&&(bT sy sz||IE ys))<|
    match x with
    |.all r=>match R.getD r none with
     |some ⟨false,ty,s,es⟩=>cj (bT s sz)<|tK (R.set r (some ⟨false,ty,s,(ys.take (min ys.len es.len)).app (es.drop (min ys.len es.len))⟩)) λR'=>K (.int .i64 (min ys.len es.len:Nat)) R'
     |_=>False
    |.own r o n=>match R.getD r none with
     |some ⟨false,ty,s,es⟩=>cj (bT s sz)<|tK (R.set r (some ⟨false,ty,s,((es.take o).app (ys.take (min ys.len n))).app (es.drop (o+min ys.len n))⟩)) λR'=>K (.int .i64 (min ys.len n:Nat)) R'
     |_=>False
    |_=>False
   |none=>False
  |_,_=>False
 |_=>False
inductive Ans where
 |no
 |ok (res:D) (rows:List Row)
 |when (p:Prop) (res:D) (rows:List Row)
 |abs (α:Type) (v:α) (res:α->D) (rows:α->List Row)
 |lM (p:Prop) (α:Type) (v:α) (res:α->D) (rows:α->List Row)
structure bc where
 f:FuncId
 refs:List Bool
 flat:Bool
 m:List D->List Row->Ans
 gone:Option Nat
 pb:Bool
def oO:List bc->FuncId->Option bc
 |[],_=>none
 |x::l,f=>match bT x.f f with|true=>some x|false=>oO l f
def FL(R:Rows):D->Option D
 |.bool b=>some (.bool b)
 |.int k n=>some (.int k n)
 |.str s=>some (.str s)
 |.iK=>some .iK
 |.jI=>some .jI
 |.du=>some (.sl 0 (.gen []) false)
 |.emp=>some (.sl 0 (.gen []) false)
 |.sl a b _=>some (.sl a b false)
 |.all r=>match R.getD r none with|some row=>(match row.box with|false=>some (.sl row.sz row.es false)|true=>none)|none=>none
 |.own r o n=>match R.getD r none with|some row=>(match row.box with|false=>some (.sl row.sz ((row.es.drop o).take n) false)|true=>none)|none=>none
 |_=>none
def JD(R:Rows):List D->Option (List D)
 |[]=>some []
 |d::ds=>match FL R d,JD R ds with|some x,some xs=>some (x::xs)|_,_=>none
def conv(R:Rows):D->Option D
 |.agg cs=>(JD R cs).map .agg
 |d=>FL R d
def D.mz(f:Nat->Nat)(cr:Bool):D->D
 |.all r=>.all (f r)
 |.own r o n=>.own (f r) o n
 |.ptr r i off=>.ptr (f r) i off
 |.pa r i off l k n=>.pa (f r) i off l k n
 |.sl a b fr=>.sl a b (fr&&cr)
 |.gn g cs=>.gn g (cs.map (iu.jg f cr))
 |.c8 r=>.c8 (f r)
 |d=>d
def D.mC(f:Nat->Nat)(cr:Bool):List D->List D
 |[]=>[]
 |d::l=>d.mz f cr::mC f cr l
def D.jg(f:Nat->Nat)(cr:Bool):D->D
 |.agg cs=>.agg (D.mC f cr cs)
 |d=>d.mz f cr
def D.AW(f:Nat->Nat)(cr:Bool):List D->List D
 |[]=>[]
 |d::l=>d.jg f cr::AW f cr l
def D.sU(f:Nat->Nat)(cr:Bool):D->D
 |.dt ds=>.dt (D.AW f cr ds)
 |d=>d.jg f cr
def Row.jg(f:Nat->Nat)(cr:Bool):Row->Row
 |⟨true,ty,sz,.gen [e]⟩=>⟨true,ty,sz,.gen [D.mC f cr e]⟩
 |r=>r
def CL(R:Rows):List Nat->List Nat
 |[]=>[]
 |r::l=>(match R.getD r none with|some ⟨true,_,_,.gen [e]⟩=>pU e|_=>[])++CL R l
def CS:List Bool->List D->List Nat
 |true::bs,d::ds=>FM d++CS bs ds
 |false::bs,_::ds=>CS bs ds
 |_,_=>[]
def lL:List Bool->List D->List Nat
 |true::bs,_::ds=>lL bs ds
 |false::bs,d::ds=>FM d++lL bs ds
 |[],d::ds=>FM d++lL [] ds
 |_,[]=>[]
def my(R:Rows)(bs:List Bool)(args:List D):List Nat:=
 let a:=lI [] (CS bs args)
 let b:=lI a (CL R a)
 lI b (CL R b)
def Bq(R:Rows)(f:Nat->Nat):List Nat->Option (List Row)
 |[]=>some []
 |r::l=>match R.getD r none,Bq R f l with
  |some row,some rs=>some (row.jg f false::rs)
  |_,_=>none
def sQ(R:Rows)(f:Nat->Nat):List Bool->List D->Option (List D)
 |true::bs,d::ds=>match d.isVal,sQ R f bs ds with|true,some xs=>some (d.jg f false::xs)|_,_=>none
 |false::bs,d::ds=>match conv R d,sQ R f bs ds with|some x,some xs=>some (x::xs)|_,_=>none
 |[],d::ds=>match conv R d,sQ R f [] ds with|some x,some xs=>some (x::xs)|_,_=>none
 |_,[]=>some []
def bk(ids:List Nat)(n0 i:Nat):Nat:=match ids[i]? with|some r=>r|none=>n0+(i-ids.length)
def tL(f:Nat->Nat):List Nat->List Row->Rows->Rows
 |r::ids,row::rows,R=>tL f ids rows (R.set r (some (row.jg f true)))
 |_,_,R=>R
def Bv(f:Nat->Nat)(rows:List Row):Rows:=rows.map λrow=>some (row.jg f true)
inductive Ex where
 |normal|exit (id:Nat)|ret
def St.put(N:Nat)(st:St)(dst:Option Tmp)(d:D)(R:Rows)(K:St->Prop):Prop:=
 match dst with
 |none=>K ⟨st.env,R⟩
 |some t=>cj (bJ t N) (K ⟨(t,d)::st.env,R⟩)
def St.kG(st:St)(c:Operand)(b:Bool):St:=
 match c with
 |.tmp t=>⟨(t,.bool b)::st.env,st.rows⟩
 |_=>st
def Er(R:Rows)(ids:List Nat)(res:D)(aj:List Row)(K:D->Rows->Prop):Prop:=
 cj (gR ids.length aj.length)<|(res.sU (bk ids R.length) true).force λres=>
  tK (tL (bk ids R.length) ids aj R++Bv (bk ids R.length) (aj.drop ids.length)) λR=>K res R
def sV(G:List bc)(f:FuncId)(args:List D)(R:Rows)(K:D->Rows->Prop):Prop:=
 match oO G f with
 |some x=>
  match sQ R (λr=>pos r (my R x.refs args) 0) x.refs args,Bq R (λr=>pos r (my R x.refs args) 0) (my R x.refs args)with
  |some az,some rows=>
   cj ((x.flat&&(match my R x.refs args with|[]=>true|_=>false)||(match lL x.refs args with|[]=>true|_=>false))&&
    (pC (CS x.refs args) (my R x.refs args)&&pC (CL R (my R x.refs args)) (my R x.refs args))&&
    (Ep (my R x.refs args)&&nN (lL x.refs args) (my R x.refs args)))<|
   match x.m az rows with
   |.ok res aj=>Er R (my R x.refs args) res aj K
   |.when p res aj=>p/\Er R (my R x.refs args) res aj K
   |.abs _ v res aj=>∀X,X=v->Er R (my R x.refs args) (res X) (aj X) K
   |.lM p _ v res aj=>p/\∀X,X=v->Er R (my R x.refs args) (res X) (aj X) K
   |.no=>False
  |_,_=>False
 |none=>False
def o7(G:List bc)(f:FuncId):Option Nat:=match oO G f with|some x=>x.gone|none=>none
def FJ(f:Nat->Nat):List Nat->List Row->Rows->Rows
 |r::ids,row::rows,R=>FJ f ids rows (R.set r (some (row.jg f false)))
 |_,_,R=>R
def PO(f:Nat->Nat)(rows:List Row):Rows:=rows.map λrow=>some (row.jg f false)
def Hs(R:Rows)(MM gid:List Nat)(res:D)(aj:List Row)(K:List Nat->D->Rows->Prop):Prop:=
 cj (gR MM.length aj.length)<|(res.sU (bk MM R.length) false).force λres=>
  tK (FJ (bk MM R.length) MM aj (rV gid R 0)++PO (bk MM R.length) (aj.drop MM.length)) λR=>K gid res R
def Im(G:List bc)(M:Nat)(f:FuncId)(k:Nat)(args:List D)(R:Rows)(K:List Nat->D->Rows->Prop):Prop:=
 match oO G f with
 |some x=>
  match sQ R (λr=>pos r (my R x.refs args) 0) x.refs args,Bq R (λr=>pos r (my R x.refs args) 0) (my R x.refs args)with
  |some az,some rows=>
   cj (((match lL x.refs args with|[]=>true|_=>false)&&(match x.refs with|[]=>false|_=>true))&&
    (pC (CS x.refs args) (my R x.refs args)&&pC (CL R (my R x.refs args)) (my R x.refs args))&&
    (Ep (my R x.refs args)&&((my R x.refs args).drop k).all λr=>gR M r))<|
   match x.m az rows with
   |.abs _ v res aj=>∀X,X=v->Hs R ((my R x.refs args).take k) ((my R x.refs args).drop k) (res X) (aj X) K
   |.lM p _ v res aj=>p/\∀X,X=v->Hs R ((my R x.refs args).take k) ((my R x.refs args).drop k) (res X) (aj X) K
   |_=>False
  |_,_=>False
 |none=>False
def BR(G:List bc)(f:FuncId):Bool:=match oO G f with|some x=>x.pb|none=>false
def CK(G:List bc)(M:Nat)(f:FuncId)(args:List D)(R:Rows)(K:List Nat->D->Rows->Prop):Prop:=
 match oO G f with
 |some x=>
  match sQ R (λr=>r) [] args,Bq R (λr=>pos r (lI [] (lL [] args)) 0) (lI [] (lL [] args))with
  |some az,some rows=>
   cj (((match x.refs with|[]=>true|_=>false)&&rows.all λr=>!r.box)&&(Ep (lI [] (lL [] args))&&(pC (lL [] args) (lI [] (lL [] args))&&(lI [] (lL [] args)).all λr=>gR M r)))<|
   match x.m az []with
   |.abs _ v res aj=>∀X,X=v->Hs R [] (lI [] (lL [] args)) (res X) (aj X) K
   |.lM p _ v res aj=>p/\∀X,X=v->Hs R [] (lI [] (lL [] args)) (res X) (aj X) K
   |_=>False
  |_,_=>False
 |none=>False
def P6:D->Bool|.gn _ _=>false|.c8 _=>false|.all _=>false|.own _ _ _=>false|.ptr _ _ _=>false|.pa _ _ _ _ _ _=>false|_=>true
def UQ:List D->Bool
 |[]=>true
 |d::l=>match P6 d with|true=>UQ l|false=>false
def sW:D->Bool|.agg cs=>UQ cs|d=>P6 d
def UR:List D->Bool
 |[]=>true
 |d::l=>match sW d with|true=>UR l|false=>false
def uJ:D->Bool|.dt ds=>UR ds|d=>sW d
def Mw(R:Rows)(res:D)(aj:List Row)(K:D->Rows->Prop):Prop:=
 match aj with
 |[]=>cj (uJ res) (res.force λres=>K res R)
 |_=>(res.sU (bk [] R.length) true).force λres=>tK (R++Bv (bk [] R.length) aj) λR=>K res R
def CV:List Nat->Bool|[]=>true|_=>false
def Kz(G:List bc)(f:FuncId)(args:List D)(R:Rows)(K:D->Rows->Prop):Prop:=
 match oO G f with
 |some x=>match x.refs with
  |[]=>match sQ R (λr=>r) [] args with
   |some az=>cj (x.flat||CV (lL [] args))<|match x.m az []with
    |.ok res aj=>Mw R res aj K
    |.when p res aj=>p/\Mw R res aj K
    |.abs _ v res aj=>∀X,X=v->Mw R (res X) (aj X) K
    |.lM p _ v res aj=>p/\∀X,X=v->Mw R (res X) (aj X) K
    |.no=>False
   |none=>False
  |_=>sV G f args R K
 |none=>False
def wg(T:fq)(e d:TypeId)(x:D)(R:Rows)(K:D->Prop):Prop:=
 match T.get e,T.get d with
 |some ⟨.int .u8,_,_,_,_,_⟩,some ⟨.string,_,_,_,_,_⟩=>match su R x with
  |some (s,es)=>match es.toI .u8 with
   |some l=>cj (bT s 1||IE es) (K (.str (bytesOf l)))
   |none=>False
  |none=>False
 |_,_=>False
def ao.Nil:ao->Prop
 |.gen es=>es=[]
 |.ints _ l=>l=[]
 |.bo l=>l=[]
 |.av _ l=>l=[]
def BJ(T:fq)(t:TypeId)(es:ao)(K:D->Prop):Prop:=
 match T.get t with
 |some ⟨.slice _ _,_,_,_,_,_⟩=>K (.pY es)
 |_=>False
def we(mx:Bool)(x y:D)(K:D->Prop):Prop:=
 match x,y with
 |.int k a,.int k' b=>cj (decide (k=k')) (K (.int k (match mx with|true=>(if b>a then b else a)|false=>(if b<a then b else a))))
 |_,_=>False
def lQ(T:fq)(G:List bc)(N M:Nat)(o:Oper)(st:St)(K:St->Prop):Prop:=
  match o.op with
  | .pick c a b=>match bq st.env c with
    | .bool t=>DG t ((bq st.env a).force λd=>st.put N o.dst d st.rows K) ((bq st.env b).force λd=>st.put N o.dst d st.rows K)
    |_=>False
  | .call {callee:= .value (.func f),args, .. }=>match o7 G f with
    | none=>match BR G f with
      |false=>Kz G f (args.toList.map (bq st.env)) st.rows λd R=>st.put N o.dst d R K
      |true=>CK G M f (args.toList.map (bq st.env)) st.rows λks d R=>Gm ks st.env λenv=>St.put N ⟨env,R⟩ o.dst d R K
    |some k=>cj (bJ f YB)<|Im G M f k (args.toList.map (bq st.env)) st.rows λks d R=>Gm ks st.env λenv=>St.put N ⟨env,R⟩ o.dst d R K
  | .call {callee:= .value (.tmp t),args, .. }=>match look st.env t with
    | .gn f cs=>match o7 G f with
      | none=>match BR G f with
        |false=>Kz G f (args.toList.map (bq st.env)++cs.map iu.d) st.rows λd R=>st.put N o.dst d R K
        |true=>False
      |some k=>cj (bJ f YB||bT args.size 1)<|Im G M f k (args.toList.map (bq st.env)++cs.map iu.d) st.rows λks d R=>Gm ks st.env λenv=>St.put N ⟨env,R⟩ o.dst d R K
    |_=>False
  | .call {callee:= .builtin .append,args,argTypes}=>match args.toList,argTypes.toList with
    |[x,y],[t,tx]=>Mj T M t tx (bq st.env x) (bq st.env y) st.rows λks d R=>Gm ks st.env λenv=>St.put N ⟨env,R⟩ o.dst d R K
    |_,_=>False
  | .call {callee:= .builtin .copy,args,argTypes}=>match args.toList,argTypes.toList with
    |[x,y],[t,tx]=>tT T t tx (bq st.env x) (bq st.env y) st.rows λd R=>st.put N o.dst d R K
    |_,_=>False
  | .call {callee:= .builtin .min,args, .. }=>match args.toList with
    |[x,y]=>we false (bq st.env x) (bq st.env y) λd=>st.put N o.dst d st.rows K
    |_=>False
  | .call {callee:= .builtin .max,args, .. }=>match args.toList with
    |[x,y]=>we true (bq st.env x) (bq st.env y) λd=>st.put N o.dst d st.rows K
    |_=>False
  | .convert s d x=>match T.get s with
    |some ⟨.slice e _,_,_,_,_,_⟩=>wg T e d (bq st.env x) st.rows λd=>st.put N o.dst d st.rows K
    |_=>ie T (.convert s d x) (bq st.env) st.rows λd R=>st.put N o.dst d R K
  | .binOp op t x y ty=>match op,bq st.env x,bq st.env y with
    | .eql, .sl _ es _, .du=>BJ T t es λd=>st.put N o.dst d st.rows K
    |_,_,_=>ie T (.binOp op t x y ty) (bq st.env) st.rows λd R=>st.put N o.dst d R K
  |op=>ie T op (bq st.env) st.rows λd R=>st.put N o.dst d R K
def Qc(T:fq)(G:List bc)(N M:Nat)(ops:Array Oper):List Oper->St->(St->Prop)->Prop
  |[],st,K=>K st
  | o :: l, st,K=>match o.guard with
    |none=>lQ T G N M o st λst=>Qc T G N M ops l st K
    | some (j,want)=>match(ops[j]?).bind (·.dst) with
      | some g=>match look st.env g with
        | .bool b=>DG b
            (match want with|true=>lQ T G N M o (st.kG (.tmp g) true) λst=>Qc T G N M ops l st K|false=>(st.kG (.tmp g) true).put N o.dst (.dt []) st.rows λst=>Qc T G N M ops l st K)
            (match want with|false=>lQ T G N M o (st.kG (.tmp g) false) λst=>Qc T G N M ops l st K|true=>(st.kG (.tmp g) false).put N o.dst (.dt []) st.rows λst=>Qc T G N M ops l st K)
        | .dt []=>st.put N o.dst (.dt []) st.rows λst=>Qc T G N M ops l st K
        |_=>False
      |none=>False
def sd(G:List bc):Op->Bool
 |.store _ _ _=>true
 |.call {callee:=.value (.func f),.. }=>match oO G f with|some x=>(match x.refs with|[]=>x.pb|_=>true)|none=>true
 |.call {callee:=.value (.tmp _),.. }=>true
 |.call {callee:=.builtin .append,.. }=>true
 |.call {callee:=.builtin .copy,.. }=>true
 |_=>false
def lu(G:List bc)(o:Op):Bool:=!sd G o
def BD(G:List bc)(ops:Array Oper)(b:Array Nat)(i j:Nat):Bool:=
 match ops[i]?,ops[j]? with
 |some x,some y=>
  (x.apart ops y||(b.getD j 0).testBit i)&&((lu G x.op&&lu G y.op)||(b.getD j 0).testBit i)
 |_,_=>true
def Ia(G:List bc)(ops:Array Oper):Bool:=
 let b:=Region.before ops
 (dD ops.size).all λj=>(match ops[j]? with|some o=>o.after.all λe=>!Region.binds .any e||bJ e.on j|none=>true)&&(dD j).all λi=>BD G ops b i j
def lj(ops:Array Oper)(i a:Nat):Bool:=(ops.toList.drop i).all λo=>match o.dst with|some d=>!(bT d a)|none=>true
def mL:List Operand->List Nat
 |[]=>[]
 |.tmp a::l=>a::mL l
 |_::l=>mL l
def pF:Op->Option (List Nat)
 |.assign x=>some (mL [x])
 |.move x=>some (mL [x])
 |.extract x _=>some (mL [x])
 |.nilCheck x=>some (mL [x])
 |.fieldAddr _ x _=>some (mL [x])
 |.buildSlice _ _ parts=>some (mL (parts.toList.map (·.2)))
 |_=>none
def lV(env:List (Nat×D))(op:Op):Option (List Nat):=
 match pF op with
 |some q=>some q
 |none=>match op with
  |.build _ parts=>some (mL (parts.toList.map (·.2)))
  |.binOp _ _ x y _=>match bq env x with|.int _ _=>some (mL [x,y])|.str _=>some (mL [x,y])|.bool _=>some (mL [x,y])|_=>none
  |.unOp _ _ x=>some (mL [x])
  |.convert _ _ x=>match bq env x with|.int _ _=>some (mL [x])|.str _=>some (mL [x])|_=>none
  |.field _ x _=>some (mL [x])
  |.index _ x y=>some (mL [x,y])
  |.slice _ x (some y) (some z) none=>match bq env x with|.str _=>some (mL [x,y,z])|_=>none
  |.slice _ x (some y) none none=>match bq env x with|.str _=>some (mL [x,y])|_=>none
  |.slice _ x none (some z) none=>match bq env x with|.str _=>some (mL [x,z])|_=>none
  |.indexAddr _ x y=>match bq env x with|.sl _ _ _=>some (mL [x,y])|_=>none
  |.load _ x=>match bq env x with|.ir _ _ _ _=>some (mL [x])|_=>none
  |.call {callee:=.builtin .len,args,.. }=>match args.toList with|[x]=>(match bq env x with|.str _=>some (mL [x])|.sl _ _ _=>some (mL [x])|_=>none)|_=>none
  |_=>none
def HR:D->Bool|.ptr _ _ _=>true|_=>false
def JZ:D->Bool|.emp=>true|.du=>true|_=>false
def Di(ops:Array Oper)(env:List (Nat×D))(i j:Nat)(op:Op)(l:List Operand):Bool:=
 match op,l with
 |.load _ (.tmp a),.tmp x::_=>lj ops i a&&(lj ops j x&&(HR (look env a)&&JZ (look env x)))
 |_,_=>false
def pE:D->Bool|.int _ _=>true|.str _=>true|.bool _=>true|.sl _ _ _=>true|.all _=>true|_=>false
def Dj(ops:Array Oper)(env:List (Nat×D))(i:Nat)(op:Op)(dst:Option Nat):Bool:=
 match op,dst with
 |.load _ (.tmp a),some t=>lj ops i a&&(HR (look env a)&&(lj ops (i+1) t&&pE (look env t)))
 |_,_=>false
def ME(G:List bc)(ops:Array Oper)(env:List (Nat×D))(i j:Nat):Bool:=
 match ops[i]?,ops[j]? with
 |some x,some y=>(match x.guard,y.guard,x.op,y.op with
  |none,none,.load _ (.tmp a),.store _ (.tmp b) _=>lj ops i a&&(lj ops j b&&(match look env a,look env b with|.ptr r _ _,.ptr r' _ _=>!(bT r r')|.ir _ _ _ _,.ptr _ _ _=>true|_,_=>false))
  |none,none,op,.store _ (.tmp b) _=>(match lV env op with|some q=>(q.all λa=>lj ops i a)&&(lj ops j b&&(match look env b with|.ptr _ _ _=>true|_=>false))|none=>false)
  |none,none,op,.call {callee:=.value (.func f),.. }=>(match(match o7 G f with|some _=>true|none=>BR G f)with|true=>false|false=>match lV env op with|some q=>q.all λa=>lj ops i a|none=>false)
  |none,none,op,.call {callee:=.builtin .append,args,.. }=>(match pF op with|some q=>(q.all λa=>lj ops i a&&HR (look env a))&&(match x.dst with|some t=>lj ops (i+1) t&&HR (look env t)|none=>true)|none=>Di ops env i j op args.toList||Dj ops env i op x.dst)
  |_,_,_,_=>false)
 |_,_=>false
def uQ(ops:Array Oper)(j:Nat):Bool:=
 match ops[j]? with
 |some y=>match y.guard,y.op with
  |none,.alloc _=>(match y.dst with|none=>true|some u=>(dD ops.size).all λk=>bT k j||(match(ops[k]?).bind (·.dst)with|some d=>!(bT d u)|none=>true))
  |_,_=>false
 |none=>false
def w5(G:List bc)(ops:Array Oper)(env:List (Nat×D))(b:Array Nat)(i j:Nat):Bool:=
 match ops[i]?,ops[j]? with
 |some x,some y=>
  (x.apart ops y||(b.getD j 0).testBit i)&&((lu G x.op&&lu G y.op)||(b.getD j 0).testBit i||(ME G ops env i j||uQ ops j))
 |_,_=>true
def QZ(G:List bc)(ops:Array Oper)(env:List (Nat×D)):Bool:=
 let b:=Region.before ops
 (dD ops.size).all λj=>(match ops[j]? with|some o=>o.after.all λe=>!Region.binds .any e||bJ e.on j|none=>true)&&(dD j).all λi=>w5 G ops env b i j
def HX(x:Nat):List Nat->Nat->List Nat
 |l,0=>x::l
 |[],_=>[x]
 |y::l,n+1=>y::HX x l n
def Du(m:Nat):List Nat->Nat->Nat->Nat
 |[],_,r=>r
 |y::l,k,r=>Du m l (k+1) (match m.testBit y with|true=>k+1|false=>r)
def Dv:List Oper->Bool
 |[]=>false
 |o::l=>match o.op with|.buildSlice _ 0 _=>true|_=>Dv l
def F9(e:Bool)(op:Op):Bool:=match pF op with|some _=>true|none=>(match op with|.load _ _=>e|_=>false)
def Dw(e:Bool)(ops:Array Oper)(b:Array Nat):List Nat->List Nat->List Nat
 |[],acc=>acc
 |j ::js,acc=>Dw e ops b js (match ops[j]? with
  |some o=>(match o.guard with
   |none=>(match F9 e o.op with|true=>HX j acc (Du (b.getD j 0) acc 0 0)|false=>acc++[j])
   |some _=>acc++[j])
  |none=>acc)
def RN(ops:Array Oper)(b:Array Nat):Bool:=
 (dD ops.size).any λj=>(match ops[j]? with|some y=>(match y.op with|.load _ _=>true|_=>false)|none=>false)&&(dD j).any λi=>(match ops[i]? with|some x=>(match x.op with|.call {callee:=.builtin .append,.. }=>true|_=>false)|none=>false)&&!((b.getD j 0).testBit i)
def Vt(ops:Array Oper):List Nat:=Dw (Dv ops.toList||RN ops (Region.before ops)) ops (Region.before ops) (dD ops.size) []
def Ve(p:List Nat)(n:Nat):Bool:=bT p.length n&&(((dD n).all λi=>bw i p)&&((p.all λi=>bJ i n)&&Ep p))
def Dm(p:List Nat)(e:Edge):Edge:=⟨pos e.on p 0,e.ground⟩
def MG(p:List Nat)(o:Oper):Oper:=⟨o.dst,o.op,o.type,o.pos,o.after.map (Dm p),match o.guard with|none=>none|some (j,w)=>some (pos j p 0,w)⟩
def nu(p:List Nat)(ops:Array Oper):Array Oper:=(p.map λi=>MG p (ops.getD i default)).toArray
def uM(T:fq)(G:List bc)(N M:Nat)(ops:Array Oper)(st:St)(Q:Ex->St->Prop):Prop:=
 match Ia G ops with
 |true=>Qc T G N M ops ops.toList st λst=>Q .normal st
 |false=>cj (Ve (Vt ops) ops.size)<|Qc T G N M (nu (Vt ops) ops) (nu (Vt ops) ops).toList st λst=>cj (QZ G (nu (Vt ops) ops) st.env) (Q .normal st)
def HJ(i n:Nat):List D->Option (List D)
 |[]=>none
 |d::l=>match d,l with
  |.iK,.du::m=>some (.c8 i:: .all n::m)
  |d,l=>match HJ i n l with|some l'=>some (d::l')|none=>none
def RO(T:fq)(t:TypeId):Bool:=match T.get t with|some ⟨_,_,_,_,some ds,_⟩=>(match HJ 0 0 ds with|some _=>true|none=>false)|_=>false
def uX(T:fq):List Oper->Bool
 |[]=>false
 |o::l=>match o.op with|.alloc t=>(match RO T t with|true=>true|false=>uX T l)|_=>uX T l
def RP:fq->Option TypeId
 |[]=>none
 |(u,i)::l=>match i.kind with|.int .u8=>some u|_=>RP l
def Jal(T:fq):Code->Option TypeId
 |.region _ ops _=>(match uX T ops.toList with|true=>RP T|false=>none)
 |_=>none
def JK(n:Nat):Rows->Nat->Option (Nat×TypeId×Nat×List D)
 |[],_=>none
 |x::l,i=>match x with
  |some ⟨true,ty,sz,.gen [e]⟩=>(match HJ i n e with|some e'=>some (i,ty,sz,e')|none=>JK n l (i+1))
  |_=>JK n l (i+1)
def JL(T:fq)(a:Code)(st:St)(K:St->Prop):Prop:=
 match Jal T a with
 |none=>K st
 |some u=>match JK st.rows.length st.rows 0 with
  |none=>K st
  |some (i,ty,sz,e)=>D.jV e λe=>tK (st.rows.set i (some ⟨true,ty,sz,.gen [e]⟩)++[some ⟨false,u,1,.ints .u8 []⟩]) λR=>K ⟨st.env,R⟩
def D.BT(R:Rows)(ks:List Nat):D->D
 |.all r=>match bw r ks with
  |true=>(match R.getD r none with|some ⟨false,_,sz,es⟩=>.sl sz es false|_=>.dead)
  |false=>.all r
 |.ptr r i off=>match bw r ks with
  |true=>(match R.getD r none with|some ⟨true,_,sz,.gen [e]⟩=>(match e.all D.plain with|true=>.ir sz (.gen [e]) i off|false=>.dead)|_=>.dead)
  |false=>.ptr r i off
 |d=>d.ei ks
def D.sw(R:Rows)(ks:List Nat):List D->List D
 |[]=>[]
 |d::l=>d.BT R ks::sw R ks l
def D.Ir(R:Rows)(ks:List Nat):D->D
 |.agg cs=>.agg (D.sw R ks cs)
 |d=>d.BT R ks
def D.Is(R:Rows)(ks:List Nat):List D->List D
 |[]=>[]
 |d::l=>d.Ir R ks::Is R ks l
def D.BU(R:Rows)(ks:List Nat):D->D
 |.dt ds=>.dt (D.Is R ks ds)
 |d=>d.Ir R ks
def Row.mh(R:Rows)(ks:List Nat):Row->Row
 |⟨true,ty,sz,.gen [e]⟩=>⟨true,ty,sz,.gen [D.sw R ks e]⟩
 |r=>r
def KC(R0:Rows)(ks:List Nat):Rows->Nat->Rows
 |[],_=>[]
 |x::l,i=>(match bw i ks with|true=>none|false=>match x with|some row=>some (row.mh R0 ks)|none=>none)::KC R0 ks l (i+1)
def EO(R:Rows)(ks:List Nat):List (Nat×D)->(List (Nat×D)->Prop)->Prop
 |[],K=>K []
 |(t,d)::l,K=>(d.BU R ks).force λd=>EO R ks l λl=>K ((t,d)::l)
def Dx:List D->List Nat
 |[]=>[]
 |d::l=>(match d with|.all r=>[r]|_=>[])++Dx l
def RQ:D->List Nat|.agg cs=>Dx cs|.all r=>[r]|_=>[]
def Ga(R:Rows)(n:Nat)(d:D):List Nat:=
 match d with
 |.ptr r _ off=>match R.getD r none with|some ⟨true,_,_,.gen [e]⟩=>Dx ((e.drop off).take n)|_=>[]
 |_=>[]
def HY:List (Nat×List Nat)->Nat->Option (List Nat)
 |[],_=>none
 |(u,x)::l,t=>match bT u t with|true=>some x|false=>HY l t
def MN(env:List (Nat×D)):List (Nat×D)->Nat->D
 |[],t=>look env t
 |(u,x)::l,t=>match bT u t with|true=>x|false=>MN env l t
def uY(env:List (Nat×D))(acc:List (Nat×List Nat)):Operand->List Nat
 |.tmp t=>match HY acc t with|some l=>l|none=>RQ (look env t)
 |_=>[]
def w9(env:List (Nat×D))(acc:List (Nat×List Nat)):List Operand->List Nat
 |[]=>[]
 |x::l=>uY env acc x++w9 env acc l
def Kd(T:fq)(env:List (Nat×D))(R:Rows)(acc:List (Nat×List Nat))(pa:List (Nat×D))(o:Oper):List (Nat×List Nat):=
 match o.dst with
 |none=>acc
 |some t=>match o.op with
  |.load ty (.tmp p)=>(t,Ga R (match T.get ty with|some i=>i.size|none=>0) (MN env pa p))::acc
  |.move x=>(t,uY env acc x)::acc
  |.slice _ x _ _ _=>(t,uY env acc x)::acc
  |_=>acc
def Ke(T:fq)(env:List (Nat×D))(pa:List (Nat×D))(o:Oper):List (Nat×D):=
 match o.dst with
 |none=>pa
 |some t=>match o.op with
  |.fieldAddr s (.tmp p) f=>(match P7 T s f with|some (k,_,_)=>(match MN env pa p with|.ptr r i off=>(t,.ptr r i (off+k))::pa|_=>pa)|none=>pa)
  |.move (.tmp p)=>(t,MN env pa p)::pa
  |.nilCheck (.tmp p)=>(t,MN env pa p)::pa
  |_=>pa
def Kf(G:List bc)(f:FuncId):Bool:=match oO G f with|some x=>x.pb||(match x.refs with|[]=>!x.flat|_=>false)|none=>false
def RR(T:fq)(env:List (Nat×D))(pa:List (Nat×D))(t:TypeId)(p:Nat):List Nat:=
 match T.get t with
 |some ⟨.array _ _ _,_,_,_,_,_⟩=>(match MN env pa p with|.ptr r _ _=>[r]|_=>[])
 |_=>[]
def SI(T:fq)(G:List bc)(env:List (Nat×D))(R:Rows):List (Nat×List Nat)->List (Nat×D)->List Oper->List Nat
 |_,_,[]=>[]
 |acc,pa,o::l=>(match o.op with|.call {callee:=.value (.func f),args,.. }=>(match Kf G f with|true=>w9 env acc args.toList|false=>[])|.slice t (.tmp p) _ _ _=>RR T env pa t p|_=>[])++SI T G env R (Kd T env R acc pa o) (Ke T env pa o) l
def uf(M:Nat)(R:Rows):List Nat->List Nat
 |[]=>[]
 |r::l=>match gR M r&&(match R.getD r none with|some ⟨false,_,_,_⟩=>true|some ⟨true,_,_,.gen [e]⟩=>e.all D.plain|_=>false)with|true=>r::uf M R l|false=>uf M R l
def It(T:fq)(G:List bc)(M:Nat)(ops:Array Oper)(st:St)(K:St->Prop):Prop:=
 match uf M st.rows (SI T G st.env st.rows [] [] ops.toList)with
 |[]=>K st
 |ks=>EO st.rows ks st.env λenv=>tK (KC st.rows ks st.rows 0) λR=>K ⟨env,R⟩
def ug(T:fq)(R:Rows)(i:Nat):Option (TypeId×Nat×TypeId×Nat):=
 match R.getD i none with
 |some ⟨true,ty,sz,.gen [[d]]⟩=>(match d with
  |.du=>(match T.get ty with|some ⟨.slice e n,_,_,_,_,_⟩=>(match bJ 0 n with|true=>some (ty,sz,e,n)|false=>none)|_=>none)
  |.emp=>(match T.get ty with|some ⟨.slice e n,_,_,_,_,_⟩=>(match bJ 0 n with|true=>some (ty,sz,e,n)|false=>none)|_=>none)
  |_=>none)
 |_=>none
def Iu(T:fq):List iu->List (Nat×D)->Rows->(Rows->Prop)->Prop
 |[],_,R,K=>K R
 |.ptr i _ _::l,env,R,K=>(match ug T R i with
  |some (ty,sz,e,n)=>AU R ⟨false,e,n,.gen []⟩ λk R=>tK (R.set i (some ⟨true,ty,sz,.gen [[.all k]]⟩)) λR=>Iu T l env R K
  |none=>Iu T l env R K)
 |_::l,env,R,K=>Iu T l env R K
def Vu(env:List (Nat×D)):List Operand->List iu
 |[]=>[]
 |.tmp t::l=>(match look env t with|.ptr i o f=>.ptr i o f::Vu env l|_=>Vu env l)
 |_::l=>Vu env l
def Aa(env:List (Nat×D)):List Oper->List iu
 |[]=>[]
 |o::l=>(match o.op with|.makeFunc _ _ captured=>Vu env captured.toList|_=>[])++Aa env l
def pf(T:fq)(G:List bc)(N M:Nat)(L:Code->St->(Ex->St->Prop)->Prop):Code->St->(Ex->St->Prop)->Prop
 |.skip,st,Q=>Q .normal st
 |.label _,st,Q=>Q .normal st
 |.region _ ops draw,st,Q=>Iu T (Aa st.env ops.toList) st.env st.rows λR=>It T G M ops ⟨st.env,R⟩ λst=>match draw with|true=>uM T G N M ops st Q|false=>Qc T G N M ops ops.toList st λst=>Q .normal st
 |.seq a b,st,Q=>pf T G N M L a st λe st=>match e with|.normal=>JL T a st λst=>pf T G N M L b st Q|.exit i=>Q (.exit i) st|.ret=>Q .ret st
 |.cond c a b,st,Q=>match bq st.env c with
  |.bool t=>DG t (pf T G N M L a (st.kG c true) Q) (pf T G N M L b (st.kG c false) Q)
  |.pY es=>(es.Nil->pf T G N M L a (st.kG c true) Q)/\pf T G N M L b (st.kG c false) Q
  |_=>False
 |.block id c,st,Q=>pf T G N M L c st λe st=>match e with|.normal=>Q .normal st|.exit i=>(match bT i id with|true=>Q .normal st|false=>Q (.exit i) st)|.ret=>Q .ret st
 |.exit id,st,Q=>Q (.exit id) st
 |.ret,st,Q=>Q .ret st
 |.scope c,st,Q=>pf T G N M L c st Q
 |c,st,Q=>L c st Q
def FZ(T:fq)(R:Rows)(env:List (Nat×D)):List ResultVar->(List D->Prop)->Prop
 |[],K=>K []
 |.tmp t::l,K=>(look env t).force λd=>cj d.isVal (FZ T R env l λds=>K (d::ds))
 |.cell a t::l,K=>wW T t (look env a) R λd _=>cj d.isVal (FZ T R env l λds=>K (d::ds))
def kH(ex:List Nat)(i r:Nat):Bool:=match ex[i]? with|some x=>bT x r|none=>false
def KG(ex:List Nat)(r:Nat):Bool:=ex.all λx=>!(bT x r)
def IH(ex:List Nat)(R:Rows)(i:Nat):Bool:=match ex[i]? with|some r=>(match R.getD r none with|none=>true|some _=>false)|none=>false
def ao.Eq:ao->ao->Prop
 |.ints k l,.ints k' m=>match decide (k=k')with|true=>l=m|false=>(ao.ints k l).l=(ao.ints k' m).l
 |.bo l,.bo m=>l=m
 |.gen es,.gen fs=>es=fs
 |.gen [],.ints _ m=>m=[]
 |.gen [],.bo m=>m=[]
 |.gen [],.av _ m=>m=[]
 |.av k l,.av k' m=>(match Ge k k' l with|some l'=>l'=m|none=>(ao.av k l).l=(ao.av k' m).l)
 |E,F=>E.l=F.l
theorem ao.Ao{E F:ao}(h:ao.Eq E F):E.l=F.l:=by
 cases E with
 |gen es=>
  cases es with
  |nil=>cases F<;>simp_all [ao.Eq,ao.l]
  |cons e es=>cases F<;>simp_all [ao.Eq,ao.l]
 |ints k l=>
  cases F with
  |ints k' m=>
   simp only[ao.Eq]at h
   split at h
   ·rename_i hk;subst h;rw[oY hk]
   ·exact h
  |_=>exact h
 |bo l=>
  cases F with
  |bo m=>simp only[ao.Eq]at h;rw[h]
  |_=>exact h
 |av k l=>
  cases F with
  |av k' m=>
   simp only[ao.Eq]at h
   split at h
   ·rename_i l' hc
    obtain⟨e,hm⟩:=Wi hc
    subst e
    simp only at hm
    rw[<-h,<-hm]
   ·exact h
  |_=>exact h
theorem ao.ot{E:ao}:E.Nil↔E.l=[]:=by
 cases E<;>simp[ao.Nil,ao.l]
def sB(ex:List Nat):List (Nat×Nat×Nat)->List (Nat×Nat×Nat)->Bool
 |[],[]=>true
 |(i,b,c)::l,(r,y,z)::m=>kH ex i r&&(bT b y&&(bT c z&&sB ex l m))
 |_,_=>false
def pj(ex:List Nat):List iu->List iu->Bool
 |[],[]=>true
 |.ptr i b c::l,.ptr r y z::m=>kH ex i r&&(bT b y&&(bT c z&&pj ex l m))
 |.fn f ps::l,.fn g qs::m=>bT f g&&(sB ex ps qs&&pj ex l m)
 |_,_=>false
def ju(ex:List Nat)(m:Nat)(R:Rows)(d p:D):Prop:=
 match p with
 |.int k n=>match d with|.int j q=>cj (decide (j=k)) (q=n)|_=>False
 |.bool b=>match d with|.bool a=>a=b|_=>False
 |.str s=>match d with|.str u=>u=s|_=>False
 |.iK=>match d with|.iK=>True|_=>False
 |.jI=>match d with|.jI=>True|_=>False
 |.gn f cs=>match d with|.gn g ds=>cj (bT f g&&pj ex cs ds) True|_=>False
 |.ptr i o f=>match d with|.ptr r o' f'=>cj (kH ex i r&&(bT o o'&&bT f f')) True|_=>False
 |.c8 i=>match d with|.iK=>True|.c8 r=>cj (kH ex i r) True|.ptr r o f=>cj (kH ex i r&&(bT o 0&&bT f 0)) True|_=>False
 |.du=>match d with|.du=>True|_=>False
 |.emp=>match d with|.du=>True|.emp=>True|_=>False
 |.sl sz es fr=>match d with
  |.du=>es.Nil
  |.emp=>es.Nil
  |.sl kB jb fr'=>cj (!fr||fr') ((jb.Nil\/kB=sz)/\ao.Eq jb es)
  |.all r=>match R.getD r none with
   |some ⟨box,_,kB,jb⟩=>cj (!box&&bT kB sz&&KG ex r&&gR m r) (ao.Eq jb es)
   |none=>False
  |.own r o n=>match R.getD r none with
   |some ⟨box,_,kB,jb⟩=>cj (!box&&bT kB sz&&KG ex r&&gR m r) (ao.Eq ((jb.drop o).take n) es)
   |none=>False
  |_=>False
 |.all i=>match d with|.all r=>cj (kH ex i r) True|.du=>cj (IH ex R i) True|.emp=>cj (IH ex R i) True|_=>False
 |.own i o n=>match d with|.own r o' n'=>cj (kH ex i r) (o'=o/\n'=n)|_=>False
 |.dead=>cj d.HL True
 |_=>False
def EW(ex:List Nat)(m:Nat)(R:Rows):List D->List D->Prop
 |[],[]=>True
 |d::ds,p::ps=>ju ex m R d p/\EW ex m R ds ps
 |_,_=>False
def rh(ex:List Nat)(m:Nat)(R:Rows)(d p:D):Prop:=
 match p with
 |.agg ps=>match d with|.agg ds=>EW ex m R ds ps|_=>False
 |p=>ju ex m R d p
def wv(ex:List Nat)(m:Nat)(R:Rows):List D->List D->Prop
 |[],[]=>True
 |d::ds,p::ps=>rh ex m R d p/\wv ex m R ds ps
 |_,_=>False
def Am(ex:List Nat)(m:Nat)(R:Rows)(d p:D):Prop:=
 match p with
 |.dt ps=>match d with|.dt ds=>wv ex m R ds ps|_=>False
 |p=>rh ex m R d p
def mX(ex:List Nat)(m:Nat)(R:Rows):List Nat->List Row->Prop
 |[],[]=>True
 |r ::rs,⟨box,ty,sz,es⟩::ps=>(match R.getD r none with
  |some ⟨Ar,jX,kB,jb⟩=>cj (Bool.xor (!box) Ar&&bT ty jX&&bT sz kB) (match box with
   |false=>ao.Eq jb es
   |true=>match jb,es with|.gen [e'],.gen [e]=>EW ex m R e' e|_,_=>False)
  |none=>cj (!box&&bJ 0 sz) es.Nil)/\mX ex m R rs ps
 |_,_=>False
def HZ(R:Rows)(p d:D):List (Nat×Nat):=
 match p with
 |.all i=>match d with|.all r=>[(i,r)]|_=>[]
 |_=>[]
def H0(R:Rows):List D->List D->List (Nat×Nat)
 |p::ps,d::ds=>HZ R p d++H0 R ps ds
 |_,_=>[]
def Jp(R:Rows)(p d:D):List (Nat×Nat):=
 match p with
 |.agg ps=>match d with|.agg ds=>H0 R ps ds|_=>[]
 |p=>HZ R p d
def newAt(n0:Nat):List (Nat×Nat)->Nat->Nat
 |[],i=>n0+i
 |(j,r)::l,i=>match bT j i with|true=>r|false=>newAt n0 l i
def news(n0:Nat)(l:List (Nat×Nat)):Nat->Nat->List Nat
 |_,0=>[]
 |i,n+1=>newAt n0 l i::news n0 l (i+1) n
def w4:List Nat->List Nat->Bool
 |[],[]=>true
 |x::l,y::m=>bT x y&&w4 l m
 |_,_=>false
def An(M:Nat)(ex:List Nat):Bool:=(w4 (ex.take M) (dD M)&&(ex.drop M).all λr=>gR M r)&&Ep (ex.drop M)
def Av(m:Nat)(res:D)(rows:List Row)(d:D)(R:Rows):Prop:=
 ∃ex,An m ex=true/\Am ex m R d res/\mX ex m R ex rows
def FY:List D->Nat->List (Nat×D)
 |[],_=>[]
 |d::ds,i=>(i,d)::FY ds (i+1)
def ny(T:fq)(G:List bc)(L:Code->St->(Ex->St->Prop)->Prop)(fn:Func)(args:List D)(rows:List Row)(Q:D->Rows->Prop):Prop:=
 match fn.body with
 |some c=>pf T G fn.ntmps rows.length L c ⟨FY args 0,rows.map some⟩ λe st=>match e with
  |.exit _=>False
  |_=>FZ T st.rows st.env fn.results.toList λds=>match ds with|[d]=>Q d st.rows|ds=>Q (.dt ds) st.rows
 |none=>False
def oE:List Nat->List D->List (Nat×D)
 |t::ts,d::ds=>(t,d)::oE ts ds
 |_,_=>[]
def AR:List iu->List Nat
 |[]=>[]
 |.fn f _::l=>f::AR l
 |_::l=>AR l
def AS:D->List Nat|.gn f cs=>f::AR cs|_=>[]
def rA:List D->List Nat
 |[]=>[]
 |d::l=>AS d++rA l
def FO:D->List Nat|.agg cs=>rA cs|d=>AS d
def pB:List D->List Nat
 |[]=>[]
 |d::l=>FO d++pB l
def CN:D->List Nat|.dt ds=>pB ds|d=>FO d
def kX:List Row->List Nat
 |[]=>[]
 |⟨true,_,_,.gen [e]⟩::l=>rA e++kX l
 |_::l=>kX l
def Gn:Rows->List Nat
 |[]=>[]
 |some r::l=>kX [r]++Gn l
 |none::l=>Gn l
def sA(l:List Nat):Bool:=l.all λf=>bJ f YB
def Ap:List (Nat×D)->List Nat
 |[]=>[]
 |(_,d)::l=>CN d++Ap l
def JS (T:fq)(G:List bc)(L:Code->St->(Ex->St->Prop)->Prop)(fn:Func)(args:List D)(rows:List Row)(Q:D->Rows->Prop)(M:Nat):Prop:=
 match fn.body with
 |some c =>match gR YB fn.nfree with
  |true =>match bT fn.nfree YB with
   |true=>pf T G fn.ntmps M L c ⟨oE fn.params.toList args,rows.map some⟩ λe st=>match e with
    |.normal=>Q (.bool true) st.rows
    |_=>False
   |false=>match c with
    |.seq a b=>pf T G fn.ntmps M L a ⟨oE fn.params.toList args,rows.map some⟩ λe st=>match e with
     |.normal=>cj (sA (Ap st.env++Gn st.rows)) (pf T G fn.ntmps M L b st λe st=>match e with
      |.normal=>Q (.bool true) st.rows
      |_=>False)
     |_=>False
    |_=>False
  |false=>pf T G fn.ntmps M L c ⟨FY args 0,rows.map some⟩ λe st=>match e with
  |.exit _=>False
  |_=>FZ T st.rows st.env fn.results.toList λds=>match ds with|[d]=>Q d st.rows|ds=>Q (.dt ds) st.rows
 |none=>False
