import Derived.Test.YthjfindbamdacaaGreatDoorAuditScriptsFy
open Nat renaming beq->bT,blt->bJ,ble->gR
open BitVec renaming ofInt->dW
open List renaming range->dD
set_option linter.all false
namespace Go.GD
open Go
def cr(b:Bool)(p:Prop):Prop:=match b with|true=>p|false=>False
def DJ(b:Bool)(p q:Prop):Prop:=match b with|true=>p|false=>q
theorem da{b:Bool}{p:Prop}:cr b p↔b=true/\p:=by cases b<;>simp[cr]
theorem Zhd{b:Bool}{p q:Prop}:DJ b p q↔(b=true->p)/\(b=false->q):=by cases b<;>simp[DJ]
abbrev Rows:=List (Option Row)
namespace D
def FO(n:Nat):D->Bool|.sl m _ _=>bT m n|.du=>true|.emp=>true|_=>false
def toEs:D->ao|.sl _ es _=>es|_=>.gen []
def u6:D->Bool|.agg _=>false|.dt _=>false|.dead=>false|_=>true
def isVal:D->Bool|.dt _=>false|.dead=>false|_=>true
def HM:D->Bool|.agg _=>false|.dt _=>false|_=>true
def plain:D->Bool|.bool _=>true|.int _ _=>true|.str _=>true|.iM=>true|.du=>true|.emp=>true|.sl _ _ _=>true|_=>false
def cells:D->List D|.agg cs=>cs|d=>[d]
def force:D->(D->Prop)->Prop
 |.bool b,K=>K (.bool b)
 |.int k n,K=>K (.int k n)
 |.str s,K=>K (.str s)
 |.sl a b c,K=>K (.sl a b c)
 |.all a,K=>K (.all a)
 |.own a b c,K=>K (.own a b c)
 |.ptr a b c,K=>K (.ptr a b c)
 |.pa a b c d e f,K=>K (.pa a b c d e f)
 |.iu a b c d,K=>K (.iu a b c d)
 |.iM,K=>K .iM
 |.du,K=>K .du
 |.emp,K=>K .emp
 |.pY es,K=>K (.pY es)
 |.dead,K=>K .dead
 |.gq a b,K=>K (.gq a b)
 |.c8 a,K=>K (.c8 a)
 |.jJ,K=>K .jJ
 |.agg a,K=>K (.agg a)
 |.dt a,K=>K (.dt a)
end D
def D.jS:List D->(List D->Prop)->Prop
 |[],K=>K []
 |d::l,K=>d.force λd=>jS l λl=>K (d::l)
def Qg:Rows->(Rows->Prop)->Prop
 |[],K=>K []
 |d::l,K=>Qg l λl=>K (d::l)
inductive rb where
 |int (k:IntKind)|bool|str|sl (n:Nat)|other
inductive TK where
 |int (k:IntKind)|bool|string
 |slice (e:TypeId) (n:Nat)
 |struct (fs:List (Nat×TypeId×Nat))
 |array (len:Nat) (e:TypeId) (n:Nat)
 |other
structure TI where
 kind:TK
 size:Nat
 bytes:Nat
 sW:List rb
 zero:Option (List D)
 eq:Bool
abbrev fq:=List (TypeId×TI)
def fq.get:fq->TypeId->Option TI
 |[],_=>none
 |(u,i)::l,t=>match bT u t with|true=>some i|false=>fq.get l t
def TK.isAgg:TK->Bool|.struct _=>true|.array _ _ _=>true|_=>false
def uM(pl:Bool):rb->D->(D->Prop)->Prop
 |.int k,c,K=>cr (c.isInt k) (K (.int k c.toInt))
 |.bool,c,K=>cr c.isBool (K (.bool c.toBool))
 |.str,c,K=>cr c.isStr (K (.str c.toStr))
 |.sl n,c,K=>match pl with
  |true=>cr (c.FO n) (K (.sl n c.toEs false))
  |false=>cr c.u6 (c.force K)
 |.other,c,K=>match pl with
  |true=>match c with|.iM=>K .iM|_=>False
  |false=>cr c.u6 (c.force K)
def JM(pl:Bool)(e:List D):List rb->Nat->(List D->Prop)->Prop
 |[],_,K=>K []
 |t::ts,off,K=>uM pl t (e.getD off .dead) λd=>JM pl e ts (off+1) λds=>K (d::ds)
def uO(pl:Bool)(t:TI)(e:List D)(off:Nat)(K:D->Prop):Prop:=
 match t.kind.isAgg with
 |true=>JM pl e t.sW off λds=>K (.agg ds)
 |false=>match t.sW with
  |[y]=>uM pl y (e.getD off .dead) K
  |_=>False
def lh:List D->Nat->List D->List D
 |e,_,[]=>e
 |e,off,v::vs=>lh (e.set off v) (off+1) vs
def QG:Value->Option D
 |.bool b=>some (.bool b)
 |.int k n=>some (.int k n)
 |.string s=>some (.str s.data.toList)
 |.slice none 0 0=>some .du
 |.pointer none=>some .iM
 |.nilIface=>some .jJ
 |.nilFunc=>some .dead
 |_=>none
def By:List Value->Option (List D)
 |[]=>some []
 |v::vs=>match QG v,By vs with|some d,some ds=>some (d::ds)|_,_=>none
def Gc:Value->Option D
 |.agg cs=>(By cs.toList).map .agg
 |v=>QG v
structure St where
 env:List (Nat×D)
 rows:Rows
def look:List (Nat×D)->Nat->D
 |[],_=>.dead
 |(u,d)::l,t=>match bT u t with|true=>d|false=>look l t
def bq(env:List (Nat×D)):Operand->D
 |.tmp t=>look env t
 |.const v=>(Gc v).getD .dead
 |.func f=>match bJ f YB with|true=>.gq f []|false=>.dead
 |_=>.dead
def bf(k:IntKind)(x y:Int):Int:=k.wrap (dW k.bits x&&&dW k.bits y).toNat
def ir(k:IntKind)(x y:Int):Int:=k.wrap (dW k.bits x|||dW k.bits y).toNat
def nj(k:IntKind)(x y:Int):Int:=k.wrap (dW k.bits x^^^dW k.bits y).toNat
def nS(k:IntKind)(x y:Int):Int:=k.wrap (dW k.bits x&&&~~~dW k.bits y).toNat
def eg(k:IntKind)(x y:Int):Int:=k.wrap (x*2^(min y.toNat k.bits))
def bg(k:IntKind)(x y:Int):Int:=x.fdiv (2^(min y.toNat k.bits))
def Zo(op:BinOp)(k:IntKind)(x y:Int)(K:D->Prop):Prop:=
 match op with
 |.add=>K (.int k (k.wrap (x+y)))
 |.sub=>K (.int k (k.wrap (x-y)))
 |.mul=>K (.int k (k.wrap (x*y)))
 |.quo=>cr (decide (y≠0)) (K (.int k (k.wrap (x.tdiv y))))
 |.rem=>cr (decide (y≠0)) (K (.int k (x.tmod y)))
 |.and=>K (.int k (bf k x y))
 |.or=>K (.int k (ir k x y))
 |.xor=>K (.int k (nj k x y))
 |.andNot=>K (.int k (nS k x y))
 |.eql=>K (.bool (x==y))
 |.neq=>K (.bool (x !=y))
 |.lss=>K (.bool (decide (x<y)))
 |.leq=>K (.bool (decide (x<=y)))
 |.gtr=>K (.bool (decide (x>y)))
 |.geq=>K (.bool (decide (x>=y)))
 |_=>False
def U8:D->D->Bool
 |.int _ a,.int _ b=>a==b
 |.bool a,.bool b=>a==b
 |.str a,.str b=>decide (a=b)
 |_,_=>false
def eqs:List D->List D->Bool
 |[],_=>true
 |a::l,b::m=>U8 a b&&eqs l m
 |_::_,[]=>false
def fits:List rb->List D->Bool
 |[],[]=>true
 |.int k::t,d::l=>d.isInt k&&fits t l
 |.bool::t,d::l=>d.isBool&&fits t l
 |.str::t,d::l=>d.isStr&&fits t l
 |_,_=>false
def sX(T:fq)(op:BinOp)(t:TypeId)(x y:D)(K:D->Prop):Prop:=
 match x,y with
 |.int k a,.int k' b=>
  match op with
  |.shl=>cr (decide (0<=b)) (K (.int k (eg k a b)))
  |.shr=>cr (decide (0<=b)) (K (.int k (bg k a b)))
  |op=>cr (decide (k=k')) (Zo op k a b K)
 |.str a,.str b=>
  match op with
  |.add=>cr (decide (a.length+b.length<=maxLen)) (K (.str (a++b)))
  |.eql=>K (.bool (decide (a=b)))
  |.neq=>K (.bool (!decide (a=b)))
  |_=>False
 |.bool a,.bool b=>
  match T.get t with
  |some ⟨.bool,_,_,_,_,_⟩=>match op with
   |.eql=>K (.bool (a==b))
   |.neq=>K (.bool (!(a==b)))
   |_=>False
  |_=>False
 |.agg a,.agg b=>
  match T.get t with
  |some ti=>cr (ti.kind.isAgg&&bJ 0 ti.size&&ti.eq&&fits ti.sW a&&fits ti.sW b)<|
   match op with
   |.eql=>K (.bool (eqs a b))
   |.neq=>K (.bool (!(eqs a b)))
   |_=>False
  |none=>False
 |_,_=>False
def ME(T:fq)(s d:TypeId)(x:D)(K:D->Prop):Prop:=
 match T.get s,T.get d with
 |some ⟨.int _,_,_,_,_,_⟩,some ⟨.int k,_,_,_,_,_⟩=>match x with
  |.int _ n=>K (.int k (k.wrap n))
  |_=>False
 |some ⟨.string,_,_,_,_,_⟩,some ⟨.string,_,_,_,_,_⟩=>match x with
  |.str s=>K (.str s)
  |_=>False
 |_,_=>False
def QD(T:fq)(s:TypeId)(f:Nat):Option (Nat×TypeId×Nat):=
 match T.get s with
 |some ⟨.struct fs,_,_,_,_,_⟩=>fs[f]?
 |_=>none
def Qv(place:Nat->Option (Nat×Nat))(ev:Operand->D):List (Nat×Operand)->List D->(List D->Prop)->Prop
 |[],cs,K=>D.jS cs K
 |(i,x)::ps,cs,K=>match place i with
  |some (off,n)=>cr ((ev x).isVal&&bT (ev x).cells.length n&&gR (off+n) cs.length) (Qv place ev ps (lh cs off (ev x).cells) K)
  |none=>False
def D.QM:D->D|.sl a b _=>.sl a b false|d=>d
def HH:List D->List D
 |[]=>[]
 |d::l=>d.QM::HH l
def HI(n len:Nat)(ev:Operand->D):List (Nat×Operand)->List (List D)->(List (List D)->Prop)->Prop
 |[],es,K=>K es
 |(i,x)::ps,es,K=>cr (((ev x).isVal&&(HH (ev x).cells).all D.plain)&&bT (HH (ev x).cells).length n&&bJ i len) (HI n len ev ps (es.set i (HH (ev x).cells)) K)
def w4(row:Row):Rows->Nat->(Nat->Rows->Prop)->Prop
 |[],n,K=>K n [some row]
 |x::l,n,K=>w4 row l (n+1) λk l=>K k (x::l)
def Ba(R:Rows)(row:Row)(K:Nat->Rows->Prop):Prop:=w4 row R 0 K
def ints(e:List D)(off:Nat):Nat->List Int
 |0=>[]
 |n+1=>(e.getD off .dead).toInt::ints e (off+1) n
def bo(e:List D)(off:Nat):Nat->List Bool
 |0=>[]
 |n+1=>(e.getD off .dead).toBool::bo e (off+1) n
def CR(k:IntKind)(e:List D)(off:Nat):Nat->Bool
 |0=>true
 |n+1=>(e.getD off .dead).isInt k&&CR k e (off+1) n
def Hx(e:List D)(off:Nat):Nat->Bool
 |0=>true
 |n+1=>(e.getD off .dead).isBool&&Hx e (off+1) n
def HE(k:IntKind)(l:List Int)(j:Nat):Nat->List D
 |0=>[]
 |n+1=>.int k (l.getD j 0)::HE k l (j+1) n
def HF(l:List Bool)(j:Nat):Nat->List D
 |0=>[]
 |n+1=>.bool (l.getD j false)::HF l (j+1) n
def w5(T:fq)(t:TypeId)(x:D)(R:Rows)(K:D->Rows->Prop):Prop:=
 match T.get t with
 |none=>False
 |some ti=>match x with
  |.ptr r i off=>match R.getD r none with
   |some ⟨box,_,sz,es⟩=>cr (gR (off+ti.size) sz) (uO (!box) ti (es.get i) off λd=>K d R)
   |none=>False
  |.pa r i off len k n=>match R.getD r none with
   |some ⟨_,_,sz,es⟩=>cr (gR (off+len) sz)<|match ti.kind,k with
    |.int j,some k=>cr (decide (j=k)&&CR k (es.get i) off len) (K (.int k ((ints (es.get i) off len).getD n 0)) R)
    |.bool,none=>cr (Hx (es.get i) off len) (K (.bool ((bo (es.get i) off len).getD n false)) R)
    |_,_=>False
   |none=>False
  |.iu sz es i off=>cr (gR (off+ti.size) sz) (uO true ti (es.get i) off λd=>K d R)
  |_=>False
def HG(T:fq)(t:TypeId)(x d:D)(R:Rows)(K:D->Rows->Prop):Prop:=
 match T.get t with
 |none=>False
 |some ti=>match x with
  |.ptr r i off=>match R.getD r none with
   |some ⟨box,ty,sz,es⟩=>cr (bJ 0 ti.size&&d.isVal&&bT d.cells.length ti.size&&gR (off+ti.size) sz)<|match box with
    |true=>D.jS (lh (es.get i) off d.cells) λe=>Qg (R.set r (some ⟨true,ty,sz,.gen [e]⟩)) λR=>K .dead R
    |false=>cr (d.cells.all D.plain) (Qg (R.set r (some ⟨false,ty,sz,es.set i (lh (es.get i) off d.cells)⟩)) λR=>K .dead R)
   |none=>False
  |.pa r i off len k n=>match R.getD r none with
   |some ⟨box,ty,sz,es⟩=>cr (box&&gR (off+len) sz)<|match ti.kind,k,d with
    |.int j,some k,.int k' v=>cr (decide (j=k)&&decide (k'=k)&&CR k (es.get i) off len)<|
     D.jS (lh (es.get i) off (HE k ((ints (es.get i) off len).set n v) 0 len)) λe=>Qg (R.set r (some ⟨true,ty,sz,.gen [e]⟩)) λR=>K .dead R
    |.bool,none,.bool v=>cr (Hx (es.get i) off len)<|
     D.jS (lh (es.get i) off (HF ((bo (es.get i) off len).set n v) 0 len)) λe=>Qg (R.set r (some ⟨true,ty,sz,.gen [e]⟩)) λR=>K .dead R
    |_,_,_=>False
   |none=>False
  |_=>False
def U5(T:fq)(t:TypeId)(x:D)(U4:Bool)(n:Int)(R:Rows)(K:D->Rows->Prop):Prop:=
 match T.get t with
 |some ⟨.slice _ iN,_,_,_,_,_⟩=>match x with
  |.sl sz es _=>cr (bT sz iN&&bJ 0 iN&&decide (0<=n/\n<es.len)) (K (.iu sz es n.toNat 0) R)
  |.own r o m=>match R.getD r none with
   |some ⟨_,_,sz,_⟩=>cr (bT sz iN&&bJ 0 iN&&decide (0<=n/\n<m)) (K (.ptr r (o+n.toNat) 0) R)
   |none=>False
  |.all r=>match R.getD r none with
   |some ⟨_,_,sz,es⟩=>cr (bT sz iN&&bJ 0 iN&&decide (0<=n/\n<es.len)) (K (.ptr r n.toNat 0) R)
   |none=>False
  |_=>False
 |some ⟨.array len e iN,_,_,_,_,_⟩=>cr (bJ 0 iN&&decide (0<=n/\n<len))<|match x with
  |.ptr r i off=>match U4 with
   |true=>K (.ptr r i (off+n.toNat*iN)) R
   |false=>match T.get e with
    |some ⟨.int k,_,_,_,_,_⟩=>cr (bT iN 1) (K (.pa r i off len (some k) n.toNat) R)
    |some ⟨.bool,_,_,_,_,_⟩=>cr (bT iN 1) (K (.pa r i off len none n.toNat) R)
    |_=>K (.ptr r i (off+n.toNat*iN)) R
  |.iu sz es i off=>K (.iu sz es i (off+n.toNat*iN)) R
  |_=>False
 |_=>False
def r8(x:Option Operand)(ev:Operand->D)(n:Int):Option Int:=match x with|none=>some n|some y=>match ev y with|.int _ m=>some m|_=>none
def MF(T:fq)(t:TypeId)(x:D)(lo hi:Option Operand)(ev:Operand->D)(R:Rows)(K:D->Rows->Prop):Prop:=
 match T.get t with
 |some ⟨.string,_,_,_,_,_⟩=>match x with
  |.str s=>match r8 lo ev 0,r8 hi ev s.length with
   |some l,some h=>cr (decide (0<=l/\l<=h/\h<=s.length)) (K (.str ((s.drop l.toNat).take (h.toNat-l.toNat))) R)
   |_,_=>False
  |_=>False
 |some ⟨.slice _ iN,_,_,_,_,_⟩=>match x with
  |.sl sz es fr=>match r8 lo ev 0,r8 hi ev es.len with
   |some l,some h=>cr (bT sz iN&&bJ 0 iN&&decide (0<=l/\l<=h/\h<=es.len)) (K (.sl sz ((es.drop l.toNat).take (h.toNat-l.toNat)) fr) R)
   |_,_=>False
  |.all r=>match R.getD r none with
   |some ⟨_,_,sz,es⟩=>match r8 lo ev 0,r8 hi ev es.len with
    |some l,some h=>cr (bT sz iN&&bJ 0 iN&&decide (0<=l/\l<=h/\h<=es.len)) (K (.own r l.toNat (h.toNat-l.toNat)) R)
    |_,_=>False
   |none=>False
  |.own r o n=>match R.getD r none with
   |some ⟨_,_,sz,_⟩=>match r8 lo ev 0,r8 hi ev n with
    |some l,some h=>cr (bT sz iN&&bJ 0 iN&&decide (0<=l/\l<=h/\h<=n)) (K (.own r (o+l.toNat) (h.toNat-l.toNat)) R)
    |_,_=>False
   |none=>False
  |_=>False
 |some ⟨.array len e iN,_,_,_,_,_⟩=>match x,lo,hi with
  |.iu sz es i off,none,none=>match T.get e with
   |some ⟨.int k,_,_,_,_,_⟩=>cr (bT iN 1&&(gR (off+len) sz&&CR k (es.get i) off len)) (K (.sl 1 (.ints k (ints (es.get i) off len)) false) R)
   |_=>False
  |_,_,_=>False
 |_=>False
def uQ(T:fq)(t:TypeId)(n m:Int)(R:Rows)(K:D->Rows->Prop):Prop:=
 match T.get t with
 |some ⟨.slice e _,_,_,_,_,_⟩=>match T.get e with
  |some ⟨_,sz,lQ,_,some z,_⟩=>cr (bJ 0 sz&&bT z.length sz&&z.all D.plain&&decide (0<=n/\n<=m/\m<=9223372036854775807/\(lQ:Int)*m<=140737488355328))
   (Ba R ⟨false,e,sz,ao.FU e n.toNat z⟩ λk R=>K (.all k) R)
  |_=>False
 |_=>False
def ta(T:fq)(t:TypeId)(x:D)(R:Rows)(K:D->Rows->Prop):Prop:=
 match T.get t with
 |some ⟨.string,_,_,_,_,_⟩=>match x with
  |.str s=>K (.int .i64 s.length) R
  |_=>False
 |some ⟨.slice _ _,_,_,_,_,_⟩=>match x with
  |.sl _ es _=>K (.int .i64 es.len) R
  |.own _ _ n=>K (.int .i64 n) R
  |.all r=>match R.getD r none with
   |some ⟨_,_,_,es⟩=>K (.int .i64 es.len) R
   |none=>False
  |.du=>K (.int .i64 0) R
  |.emp=>K (.int .i64 0) R
  |_=>False
 |_=>False
def MG(T:fq)(t:TypeId)(parts:List (Nat×Operand))(ev:Operand->D)(R:Rows)(K:D->Rows->Prop):Prop:=
 match T.get t with
 |some ⟨.struct fs,_,_,_,some ds,_⟩=>cr (fs.all λf=>bJ 0 f.2.2)<|Qv (λi=>(fs[i]?).map λf=>(f.1,f.2.2)) ev parts ds λcs=>K (.agg cs) R
 |some ⟨.array _ _ iN,_,_,_,some ds,_⟩=>cr (bJ 0 iN)<|Qv (λi=>some (i*iN,iN)) ev parts ds λcs=>K (.agg cs) R
 |_=>False
def Ql(T:fq)(t:TypeId)(len:Nat)(parts:List (Nat×Operand))(ev:Operand->D)(R:Rows)(K:D->Rows->Prop):Prop:=
 match T.get t with
 | some ⟨.slice e _,_,_,_,_,_⟩=>match T.get e with
   |some ⟨_,sz,_,_,some z,_⟩=>cr (bJ 0 sz&&bT z.length sz&&gR (len*sz) 16777216&&z.all D.plain)<|
       HI sz len ev parts (List.replicate len z) λes=>match len with|0=>K .emp R|_+1=>K (.sl sz (ao.ofT e es) true) R
   |_=>False
 |_=>False
def Hy:iv->Option (Nat×Nat×Nat)|.ptr r i off=>some (r,i,off)|_=>none
def P5:List iv->Option (List (Nat×Nat×Nat))
 |[]=>some []
 |x::l=>match Hy x,P5 l with|some p,some ps=>some (p::ps)|_,_=>none
def CU:D->Option iv
 |.ptr r i off=>some (.ptr r i off)
 |.int k n=>some (.int k n)
 |.all r=>some (.arr r)
 |.sl a b fr=>some (.sl a b fr)
 |.gq f cs=>match P5 cs with|some ps=>some (.fn f ps)|none=>none
 |_=>none
def KJ:List D->Option (List iv)
 |[]=>some []
 |d::l=>match CU d,KJ l with|some x,some xs=>some (x::xs)|_,_=>none
def ie(T:fq)(o:Op)(ev:Operand->D)(R:Rows)(K:D->Rows->Prop):Prop:=
 match o with
 |.move x|.assign x=>(ev x).force λd=>K d R
 |.alloc t=>match T.get t with
  |some ⟨_,sz,_,_,some ds,_⟩=>cr (bJ 0 sz&&bT ds.length sz) (Ba R ⟨true,t,sz,.gen [ds]⟩ λk R=>K (.ptr k 0 0) R)
  |_=>False
 |.box t x=>match T.get t with
  |some ⟨_,sz,_,_,_,_⟩=>cr (bJ 0 sz&&(ev x).isVal&&bT (ev x).cells.length sz) (D.jS (ev x).cells λcs=>Ba R ⟨true,t,sz,.gen [cs]⟩ λk R=>K (.ptr k 0 0) R)
  |none=>False
 |.build t parts=>MG T t parts.toList ev R K
 |.buildSlice t len parts=>Ql T t len parts.toList ev R K
 |.load t a=>w5 T t (ev a) R K
 |.store t a x=>HG T t (ev a) (ev x) R K
 |.nilCheck x=>match ev x with
  |.ptr a b c=>K (.ptr a b c) R
  |.iu a b c d=>K (.iu a b c d) R
  |_=>False
 |.binOp op t x y _=>sX T op t (ev x) (ev y) λd=>K d R
 |.unOp op _ x=>match op,ev x with
  |.neg,.int k n=>K (.int k (k.wrap (0-n))) R
  |.xor,.int k n=>K (.int k (nj k (if k.signed then-1 else k.max) n)) R
  |.not,.bool b=>K (.bool (!b)) R
  |_,_=>False
 |.convert s d x=>ME T s d (ev x) λv=>K v R
 |.fieldAddr s x f=>match QD T s f with
  |some (o,_,n)=>cr (bJ 0 n)<|match ev x with
   |.ptr r i off=>K (.ptr r i (off+o)) R
   |.iu sz es i off=>K (.iu sz es i (off+o)) R
   |_=>False
  |none=>False
 |.field s x f=>match QD T s f with
  |some (o,t,n)=>match ev x,T.get t with
   |.agg cs,some ti=>cr (bJ 0 n&&gR (o+n) cs.length)<|match ti.kind.isAgg with
    |true=>D.jS ((cs.drop o).take n) λl=>K (.agg l) R
    |false=>cr (cs.getD o .dead).u6 ((cs.getD o .dead).force λd=>K d R)
   |_,_=>False
  |none=>False
 |.indexAddr t x ix=>match ev ix with
  |.int _ n=>U5 T t (ev x) (match ix with|.const _=>true|_=>false) n R K
  |_=>False
 |.index t x ix=>match T.get t,ev x,ev ix with
  |some ⟨.string,_,_,_,_,_⟩,.str s,.int _ n=>cr (decide (0<=n/\n<s.length)) (K (.int .u8 ((s.getD n.toNat 0).toNat:Int)) R)
  |some ⟨.array len e iN,_,_,_,_,_⟩,.agg cs,.int _ n=>cr (bT iN 1&&(bT cs.length len&&decide (0<=n/\n<len)))<|match T.get e with
   |some ⟨.int k,_,_,_,_,_⟩=>cr (CR k cs 0 len) (K (.int k ((ints cs 0 len).getD n.toNat 0)) R)
   |some ⟨.bool,_,_,_,_,_⟩=>cr (Hx cs 0 len) (K (.bool ((bo cs 0 len).getD n.toNat false)) R)
   |_=>False
  |_,_,_=>False
 |.extract x i=>match ev x with
  |.dt ds=>cr (ds.getD i .dead).isVal ((ds.getD i .dead).force λd=>K d R)
  |_=>False
 |.slice t x lo hi none=>MF T t (ev x) lo hi ev R K
 |.makeSlice t l c=>match ev l,ev c with
  |.int _ n,.int _ m=>uQ T t n m R K
  |_,_=>False
 |.call {callee:=.builtin .len,args,argTypes}=>match args.toList,argTypes.toList with
  |[x],[t]=>ta T t (ev x) R K
  |_,_=>False
 |.makeFunc fn first captured=>match fn with
  |.func f=>cr (bT first.size 0&&bJ f YB)<|match KJ (captured.toList.map ev)with
   |some cs=>K (.gq f cs) R
   |none=>False
  |_=>False
 |_=>False
def pos(r:Nat):List Nat->Nat->Nat
 |[],k=>k
 |x::l,k=>match bT x r with|true=>k|false=>pos r l (k+1)
def bw(r:Nat):List Nat->Bool
 |[]=>false
 |x::l=>match bT x r with|true=>true|false=>bw r l
def pD:List Nat->List Nat->Bool
 |[],_=>true
 |x::l,m=>match bw x m with|true=>pD l m|false=>false
def nO:List Nat->List Nat->Bool
 |[],_=>true
 |x::l,m=>match bw x m with|true=>false|false=>nO l m
def lJ:List Nat->List Nat->List Nat
 |ids,[]=>ids
 |ids,x::l=>match bw x ids with|true=>lJ ids l|false=>lJ (ids++[x]) l
def Ep:List Nat->Bool
 |[]=>true
 |x::l=>match bw x l with|true=>false|false=>Ep l
def CP:iv->List Nat|.ptr r _ _=>[r]|.arr r=>[r]|.fn _ ps=>ps.map (·.1)|_=>[]
def oz:List iv->List Nat
 |[]=>[]
 |x::l=>CP x++oz l
def iv.jg(f:Nat->Nat)(cu:Bool):iv->iv
 |.ptr r i off=>.ptr (f r) i off
 |.int k n=>.int k n
 |.arr r=>.arr (f r)
 |.sl a b fr=>.sl a b (fr&&cu)
 |.fn g ps=>.fn g (ps.map λp=>(f p.1,p.2))
def nN:D->List Nat|.gq _ cs=>oz cs|.c8 r=>[r]|.all r=>[r]|.own r _ _=>[r]|.ptr r _ _=>[r]|.pa r _ _ _ _ _=>[r]|_=>[]
def pU:List D->List Nat
 |[]=>[]
 |d::l=>nN d++pU l
def FL:D->List Nat|.agg cs=>pU cs|d=>nN d
def D.ej(ks:List Nat):D->D
 |.all r=>match bw r ks with|true=>.dead|false=>.all r
 |.own r o n=>match bw r ks with|true=>.dead|false=>.own r o n
 |.ptr r i off=>match bw r ks with|true=>.dead|false=>.ptr r i off
 |.pa r i off l k n=>match bw r ks with|true=>.dead|false=>.pa r i off l k n
 |.c8 r=>match bw r ks with|true=>.dead|false=>.c8 r
 |.gq f cs=>match nO (oz cs) ks with|true=>.gq f cs|false=>.dead
 |d=>d
def D.kA(ks:List Nat):List D->List D
 |[]=>[]
 |d::l=>d.ej ks::kA ks l
def D.kill(ks:List Nat):D->D
 |.agg cs=>.agg (D.kA ks cs)
 |d=>d.ej ks
def D.pM(ks:List Nat):List D->List D
 |[]=>[]
 |d::l=>d.kill ks::pM ks l
def D.gr(ks:List Nat):D->D
 |.dt ds=>.dt (D.pM ks ds)
 |d=>d.kill ks
def Row.kill(ks:List Nat):Row->Row
 |⟨true,ty,sz,.gen [e]⟩=>⟨true,ty,sz,.gen [D.kA ks e]⟩
 |r=>r
def r6(ks:List Nat):Rows->Nat->Rows
 |[],_=>[]
 |x::l,i=>(match bw i ks with|true=>none|false=>match x with|some row=>some (row.kill ks)|none=>none)::r6 ks l (i+1)
def Gl(ks:List Nat):List (Nat×D)->(List (Nat×D)->Prop)->Prop
 |[],K=>K []
 |(t,d)::l,K=>(d.gr ks).force λd=>Gl ks l λl=>K ((t,d)::l)
def jx(s:List UInt8):List Int:=s.map λb=>(b.toNat:Int)
def bytesOf(l:List Int):List UInt8:=l.map λn=>UInt8.ofNat n.toNat
def sA(R:Rows):D->Option (Nat×ao)
 |.du=>some (0,.gen [])
 |.emp=>some (0,.gen [])
 |.sl sz es _=>some (sz,es)
 |.all r=>match R.getD r none with|some ⟨false,_,sz,es⟩=>some (sz,es)|_=>none
 |.own r o n=>match R.getD r none with|some ⟨false,_,sz,es⟩=>some (sz,(es.drop o).take n)|_=>none
 |_=>none
def CH(R:Rows)(ke kx:TK)(y:D):Option (Nat×ao):=
 match kx with
 |.slice _ _=>sA R y
 |.string=>match ke,y with
  |.int .u8,.str s=>some (1,.ints .u8 (jx s))
  |_,_=>none
 |_=>none
def IG:ao->Bool|.gen []=>true|_=>false
def CJ(e sz lQ:Nat)(R:Rows)(ks:List Nat)(es ys:ao)(K:List Nat->D->Rows->Prop):Prop:=
 cr (decide (lQ*(es.len+ys.len)<=140737488355328))<|Qg (r6 ks R 0++[some ⟨false,e,sz,es.app ys⟩]) λR'=>K ks (.all R.length) R'
def Mq (T:fq)(M:Nat)(t tx:TypeId)(x y:D)(R:Rows)(K:List Nat->D->Rows->Prop):Prop:=
 match T.get t with
 |some ⟨.slice e iN,_,_,_,_,_⟩=>match T.get e,T.get tx with
  |some ⟨ke,sz,lQ,_,some z,_⟩,some ⟨kx,_,_,_,_,_⟩=>match CH R ke kx y with
   |some (sy,ys)=>cr ((bJ 0 sz&&bT iN sz)&&(bT z.length sz&&z.all D.plain)&&(bJ 0 lQ&&(bT sy sz||IG ys)))<|
    match x with
    |.du=>CJ e sz lQ R [] (.gen []) ys K
    |.emp=>CJ e sz lQ R [] (.gen []) ys K
    |.all r=>match R.getD r none with
     |some ⟨false,ty,s,es⟩=>cr ((bT s sz&&bT ty e)&&gR M r) (CJ e sz lQ R [r] es ys K)
     |_=>False
    |.own r o n=>match R.getD r none with
     |some ⟨false,ty,s,es⟩=>cr ((bT s sz&&bT ty e)&&(gR M r&&bT o 0)) (CJ e sz lQ R [r] (es.take n) ys K)
     |_=>False
    |_=>False
   |none=>False
  |_,_=>False
 |_=>False
def tY(T:fq)(t tx:TypeId)(x y:D)(R:Rows)(K:D->Rows->Prop):Prop:=
 match T.get t with
 |some ⟨.slice e iN,_,_,_,_,_⟩=>match T.get e,T.get tx with
  |some ⟨ke,sz,_,_,_,_⟩,some ⟨kx,_,_,_,_,_⟩=>match CH R ke kx y with
   |some (sy,ys)=>cr ((bJ 0 sz&&bT iN sz)&&(bT sy sz||IG ys))<|
    match x with
    |.all r=>match R.getD r none with
     |some ⟨false,ty,s,es⟩=>cr (bT s sz)<|Qg (R.set r (some ⟨false,ty,s,(ys.take (min ys.len es.len)).app (es.drop (min ys.len es.len))⟩)) λR'=>K (.int .i64 (min ys.len es.len:Nat)) R'
     |_=>False
    |.own r o n=>match R.getD r none with
     |some ⟨false,ty,s,es⟩=>cr (bT s sz)<|Qg (R.set r (some ⟨false,ty,s,((es.take o).app (ys.take (min ys.len n))).app (es.drop (o+min ys.len n))⟩)) λR'=>K (.int .i64 (min ys.len n:Nat)) R'
     |_=>False
    |_=>False
   |none=>False
  |_,_=>False
 |_=>False
inductive Ans where
 |no
 |ok (res:D) (rows:List Row)
 |when (p:Prop) (res:D) (rows:List Row)
 |abs (α:Type) (v:α) (res:α->D) (rows:α->List Row)
 |lO (p:Prop) (α:Type) (v:α) (res:α->D) (rows:α->List Row)
structure bc where
 f:FuncId
 refs:List Bool
 flat:Bool
 m:List D->List Row->Ans
 gone:Option Nat
 pf:Bool
def oO:List bc->FuncId->Option bc
 |[],_=>none
 |x::l,f=>match bT x.f f with|true=>some x|false=>oO l f
def FK(R:Rows):D->Option D
 |.bool b=>some (.bool b)
 |.int k n=>some (.int k n)
 |.str s=>some (.str s)
 |.iM=>some .iM
 |.jJ=>some .jJ
 |.du=>some (.sl 0 (.gen []) false)
 |.emp=>some (.sl 0 (.gen []) false)
 |.sl a b _=>some (.sl a b false)
 |.all r=>match R.getD r none with|some row=>(match row.box with|false=>some (.sl row.sz row.es false)|true=>none)|none=>none
 |.own r o n=>match R.getD r none with|some row=>(match row.box with|false=>some (.sl row.sz ((row.es.drop o).take n) false)|true=>none)|none=>none
 |_=>none
def JK(R:Rows):List D->Option (List D)
 |[]=>some []
 |d::ds=>match FK R d,JK R ds with|some x,some xs=>some (x::xs)|_,_=>none
def conv(R:Rows):D->Option D
 |.agg cs=>(JK R cs).map .agg
 |d=>FK R d
def D.mF(f:Nat->Nat)(cu:Bool):D->D
 |.all r=>.all (f r)
 |.own r o n=>.own (f r) o n
 |.ptr r i off=>.ptr (f r) i off
 |.pa r i off l k n=>.pa (f r) i off l k n
 |.sl a b fr=>.sl a b (fr&&cu)
 |.gq g cs=>.gq g (cs.map (iv.jg f cu))
 |.c8 r=>.c8 (f r)
 |d=>d
def D.mG(f:Nat->Nat)(cu:Bool):List D->List D
 |[]=>[]
 |d::l=>d.mF f cu::mG f cu l
def D.jg(f:Nat->Nat)(cu:Bool):D->D
 |.agg cs=>.agg (D.mG f cu cs)
 |d=>d.mF f cu
def D.Bc(f:Nat->Nat)(cu:Bool):List D->List D
 |[]=>[]
 |d::l=>d.jg f cu::Bc f cu l
def D.sZ(f:Nat->Nat)(cu:Bool):D->D
 |.dt ds=>.dt (D.Bc f cu ds)
 |d=>d.jg f cu
def Row.jg(f:Nat->Nat)(cu:Bool):Row->Row
 |⟨true,ty,sz,.gen [e]⟩=>⟨true,ty,sz,.gen [D.mG f cu e]⟩
 |r=>r
def CO(R:Rows):List Nat->List Nat
 |[]=>[]
 |r::l=>(match R.getD r none with|some ⟨true,_,_,.gen [e]⟩=>pU e|_=>[])++CO R l
def CW:List Bool->List D->List Nat
 |true::bs,d::ds=>FL d++CW bs ds
 |false::bs,_::ds=>CW bs ds
 |_,_=>[]
def lN:List Bool->List D->List Nat
 |true::bs,_::ds=>lN bs ds
 |false::bs,d::ds=>FL d++lN bs ds
 |[],d::ds=>FL d++lN [] ds
 |_,[]=>[]
def mC(R:Rows)(bs:List Bool)(args:List D):List Nat:=
 let a:=lJ [] (CW bs args)
 let b:=lJ a (CO R a)
 lJ b (CO R b)
def Bv(R:Rows)(f:Nat->Nat):List Nat->Option (List Row)
 |[]=>some []
 |r::l=>match R.getD r none,Bv R f l with
  |some row,some rs=>some (row.jg f false::rs)
  |_,_=>none
def sV(R:Rows)(f:Nat->Nat):List Bool->List D->Option (List D)
 |true::bs,d::ds=>match d.isVal,sV R f bs ds with|true,some xs=>some (d.jg f false::xs)|_,_=>none
 |false::bs,d::ds=>match conv R d,sV R f bs ds with|some x,some xs=>some (x::xs)|_,_=>none
 |[],d::ds=>match conv R d,sV R f [] ds with|some x,some xs=>some (x::xs)|_,_=>none
 |_,[]=>some []
def bk(ids:List Nat)(n0 i:Nat):Nat:=match ids[i]? with|some r=>r|none=>n0+(i-ids.length)
def tQ(f:Nat->Nat):List Nat->List Row->Rows->Rows
 |r::ids,row::rows,R=>tQ f ids rows (R.set r (some (row.jg f true)))
 |_,_,R=>R
def BA(f:Nat->Nat)(rows:List Row):Rows:=rows.map λrow=>some (row.jg f true)
inductive Ex where
 |normal|exit (id:Nat)|ret
def St.put(N:Nat)(st:St)(dst:Option Tmp)(d:D)(R:Rows)(K:St->Prop):Prop:=
 match dst with
 |none=>K ⟨st.env,R⟩
 |some t=>cr (bJ t N) (K ⟨(t,d)::st.env,R⟩)
def St.kG(st:St)(c:Operand)(b:Bool):St:=
 match c with
 |.tmp t=>⟨(t,.bool b)::st.env,st.rows⟩
 |_=>st
def Er(R:Rows)(ids:List Nat)(res:D)(aj:List Row)(K:D->Rows->Prop):Prop:=
 cr (gR ids.length aj.length)<|(res.sZ (bk ids R.length) true).force λres=>
  Qg (tQ (bk ids R.length) ids aj R++BA (bk ids R.length) (aj.drop ids.length)) λR=>K res R
def s7(G:List bc)(f:FuncId)(args:List D)(R:Rows)(K:D->Rows->Prop):Prop:=
 match oO G f with
 |some x=>
  match sV R (λr=>pos r (mC R x.refs args) 0) x.refs args,Bv R (λr=>pos r (mC R x.refs args) 0) (mC R x.refs args)with
  |some az,some rows=>
   cr ((x.flat&&(match mC R x.refs args with|[]=>true|_=>false)||(match lN x.refs args with|[]=>true|_=>false))&&
    (pD (CW x.refs args) (mC R x.refs args)&&pD (CO R (mC R x.refs args)) (mC R x.refs args))&&
    (Ep (mC R x.refs args)&&nO (lN x.refs args) (mC R x.refs args)))<|
   match x.m az rows with
   |.ok res aj=>Er R (mC R x.refs args) res aj K
   |.when p res aj=>p/\Er R (mC R x.refs args) res aj K
   |.abs _ v res aj=>∀X,X=v->Er R (mC R x.refs args) (res X) (aj X) K
   |.lO p _ v res aj=>p/\∀X,X=v->Er R (mC R x.refs args) (res X) (aj X) K
   |.no=>False
  |_,_=>False
 |none=>False
def o8(G:List bc)(f:FuncId):Option Nat:=match oO G f with|some x=>x.gone|none=>none
def FI(f:Nat->Nat):List Nat->List Row->Rows->Rows
 |r::ids,row::rows,R=>FI f ids rows (R.set r (some (row.jg f false)))
 |_,_,R=>R
def PW(f:Nat->Nat)(rows:List Row):Rows:=rows.map λrow=>some (row.jg f false)
def Hu(R:Rows)(MS gid:List Nat)(res:D)(aj:List Row)(K:List Nat->D->Rows->Prop):Prop:=
 cr (gR MS.length aj.length)<|(res.sZ (bk MS R.length) false).force λres=>
  Qg (FI (bk MS R.length) MS aj (r6 gid R 0)++PW (bk MS R.length) (aj.drop MS.length)) λR=>K gid res R
def Io(G:List bc)(M:Nat)(f:FuncId)(k:Nat)(args:List D)(R:Rows)(K:List Nat->D->Rows->Prop):Prop:=
 match oO G f with
 |some x=>
  match sV R (λr=>pos r (mC R x.refs args) 0) x.refs args,Bv R (λr=>pos r (mC R x.refs args) 0) (mC R x.refs args)with
  |some az,some rows=>
   cr (((match lN x.refs args with|[]=>true|_=>false)&&(match x.refs with|[]=>false|_=>true))&&
    (pD (CW x.refs args) (mC R x.refs args)&&pD (CO R (mC R x.refs args)) (mC R x.refs args))&&
    (Ep (mC R x.refs args)&&((mC R x.refs args).drop k).all λr=>gR M r))<|
   match x.m az rows with
   |.abs _ v res aj=>∀X,X=v->Hu R ((mC R x.refs args).take k) ((mC R x.refs args).drop k) (res X) (aj X) K
   |.lO p _ v res aj=>p/\∀X,X=v->Hu R ((mC R x.refs args).take k) ((mC R x.refs args).drop k) (res X) (aj X) K
   |_=>False
  |_,_=>False
 |none=>False
def BW(G:List bc)(f:FuncId):Bool:=match oO G f with|some x=>x.pf|none=>false
def CN(G:List bc)(M:Nat)(f:FuncId)(args:List D)(R:Rows)(K:List Nat->D->Rows->Prop):Prop:=
 match oO G f with
 |some x=>
  match sV R (λr=>r) [] args,Bv R (λr=>pos r (lJ [] (lN [] args)) 0) (lJ [] (lN [] args))with
  |some az,some rows=>
   cr (((match x.refs with|[]=>true|_=>false)&&rows.all λr=>!r.box)&&(Ep (lJ [] (lN [] args))&&(pD (lN [] args) (lJ [] (lN [] args))&&(lJ [] (lN [] args)).all λr=>gR M r)))<|
   match x.m az []with
   |.abs _ v res aj=>∀X,X=v->Hu R [] (lJ [] (lN [] args)) (res X) (aj X) K
   |.lO p _ v res aj=>p/\∀X,X=v->Hu R [] (lJ [] (lN [] args)) (res X) (aj X) K
   |_=>False
  |_,_=>False
 |none=>False
def QC:D->Bool|.gq _ _=>false|.c8 _=>false|.all _=>false|.own _ _ _=>false|.ptr _ _ _=>false|.pa _ _ _ _ _ _=>false|_=>true
def U0:List D->Bool
 |[]=>true
 |d::l=>match QC d with|true=>U0 l|false=>false
def s9:D->Bool|.agg cs=>U0 cs|d=>QC d
def U1:List D->Bool
 |[]=>true
 |d::l=>match s9 d with|true=>U1 l|false=>false
def uP:D->Bool|.dt ds=>U1 ds|d=>s9 d
def MD(R:Rows)(res:D)(aj:List Row)(K:D->Rows->Prop):Prop:=
 match aj with
 |[]=>cr (uP res) (res.force λres=>K res R)
 |_=>(res.sZ (bk [] R.length) true).force λres=>Qg (R++BA (bk [] R.length) aj) λR=>K res R
def CY:List Nat->Bool|[]=>true|_=>false
def KF(G:List bc)(f:FuncId)(args:List D)(R:Rows)(K:D->Rows->Prop):Prop:=
 match oO G f with
 |some x=>match x.refs with
  |[]=>match sV R (λr=>r) [] args with
   |some az=>cr (x.flat||CY (lN [] args))<|match x.m az []with
    |.ok res aj=>MD R res aj K
    |.when p res aj=>p/\MD R res aj K
    |.abs _ v res aj=>∀X,X=v->MD R (res X) (aj X) K
    |.lO p _ v res aj=>p/\∀X,X=v->MD R (res X) (aj X) K
    |.no=>False
   |none=>False
  |_=>s7 G f args R K
 |none=>False
def wo(T:fq)(e d:TypeId)(x:D)(R:Rows)(K:D->Prop):Prop:=
 match T.get e,T.get d with
 |some ⟨.int .u8,_,_,_,_,_⟩,some ⟨.string,_,_,_,_,_⟩=>match sA R x with
  |some (s,es)=>match es.toI .u8 with
   |some l=>cr (bT s 1||IG es) (K (.str (bytesOf l)))
   |none=>False
  |none=>False
 |_,_=>False
def ao.Nil:ao->Prop
 |.gen es=>es=[]
 |.ints _ l=>l=[]
 |.bo l=>l=[]
 |.av _ l=>l=[]
def BO(T:fq)(t:TypeId)(es:ao)(K:D->Prop):Prop:=
 match T.get t with
 |some ⟨.slice _ _,_,_,_,_,_⟩=>K (.pY es)
 |_=>False
def wm(mx:Bool)(x y:D)(K:D->Prop):Prop:=
 match x,y with
 |.int k a,.int k' b=>cr (decide (k=k')) (K (.int k (match mx with|true=>(if b>a then b else a)|false=>(if b<a then b else a))))
 |_,_=>False
def lS(T:fq)(G:List bc)(N M:Nat)(o:Oper)(st:St)(K:St->Prop):Prop:=
  match o.op with
  | .pick c a b=>match bq st.env c with
    | .bool t=>DJ t ((bq st.env a).force λd=>st.put N o.dst d st.rows K) ((bq st.env b).force λd=>st.put N o.dst d st.rows K)
    |_=>False
  | .call {callee:= .value (.func f),args, .. }=>match o8 G f with
    | none=>match BW G f with
      |false=>KF G f (args.toList.map (bq st.env)) st.rows λd R=>st.put N o.dst d R K
      |true=>CN G M f (args.toList.map (bq st.env)) st.rows λks d R=>Gl ks st.env λenv=>St.put N ⟨env,R⟩ o.dst d R K
    |some k=>cr (bJ f YB)<|Io G M f k (args.toList.map (bq st.env)) st.rows λks d R=>Gl ks st.env λenv=>St.put N ⟨env,R⟩ o.dst d R K
  | .call {callee:= .value (.tmp t),args, .. }=>match look st.env t with
    | .gq f cs=>match o8 G f with
      | none=>match BW G f with
        |false=>KF G f (args.toList.map (bq st.env)++cs.map iv.d) st.rows λd R=>st.put N o.dst d R K
        |true=>False
      |some k=>cr (bJ f YB||bT args.size 1)<|Io G M f k (args.toList.map (bq st.env)++cs.map iv.d) st.rows λks d R=>Gl ks st.env λenv=>St.put N ⟨env,R⟩ o.dst d R K
    |_=>False
  | .call {callee:= .builtin .append,args,argTypes}=>match args.toList,argTypes.toList with
    |[x,y],[t,tx]=>Mq T M t tx (bq st.env x) (bq st.env y) st.rows λks d R=>Gl ks st.env λenv=>St.put N ⟨env,R⟩ o.dst d R K
    |_,_=>False
  | .call {callee:= .builtin .copy,args,argTypes}=>match args.toList,argTypes.toList with
    |[x,y],[t,tx]=>tY T t tx (bq st.env x) (bq st.env y) st.rows λd R=>st.put N o.dst d R K
    |_,_=>False
  | .call {callee:= .builtin .min,args, .. }=>match args.toList with
    |[x,y]=>wm false (bq st.env x) (bq st.env y) λd=>st.put N o.dst d st.rows K
    |_=>False
  | .call {callee:= .builtin .max,args, .. }=>match args.toList with
    |[x,y]=>wm true (bq st.env x) (bq st.env y) λd=>st.put N o.dst d st.rows K
    |_=>False
  | .convert s d x=>match T.get s with
    |some ⟨.slice e _,_,_,_,_,_⟩=>wo T e d (bq st.env x) st.rows λd=>st.put N o.dst d st.rows K
    |_=>ie T (.convert s d x) (bq st.env) st.rows λd R=>st.put N o.dst d R K
  | .binOp op t x y ty=>match op,bq st.env x,bq st.env y with
    | .eql, .sl _ es _, .du=>BO T t es λd=>st.put N o.dst d st.rows K
    |_,_,_=>ie T (.binOp op t x y ty) (bq st.env) st.rows λd R=>st.put N o.dst d R K
  |op=>ie T op (bq st.env) st.rows λd R=>st.put N o.dst d R K
def mb(T:fq)(G:List bc)(N M:Nat)(ops:Array Oper):List Oper->St->(St->Prop)->Prop
  |[],st,K=>K st
  | o :: l, st,K=>match o.guard with
    |none=>lS T G N M o st λst=>mb T G N M ops l st K
    | some (j,want)=>match(ops[j]?).bind (·.dst) with
      | some g=>match look st.env g with
        | .bool b=>DJ b
            (match want with|true=>lS T G N M o (st.kG (.tmp g) true) λst=>mb T G N M ops l st K|false=>(st.kG (.tmp g) true).put N o.dst (.dt []) st.rows λst=>mb T G N M ops l st K)
            (match want with|false=>lS T G N M o (st.kG (.tmp g) false) λst=>mb T G N M ops l st K|true=>(st.kG (.tmp g) false).put N o.dst (.dt []) st.rows λst=>mb T G N M ops l st K)
        | .dt []=>st.put N o.dst (.dt []) st.rows λst=>mb T G N M ops l st K
        |_=>False
      |none=>False
def sg(G:List bc):Op->Bool
 |.store _ _ _=>true
 |.call {callee:=.value (.func f),.. }=>match oO G f with|some x=>(match x.refs with|[]=>x.pf|_=>true)|none=>true
 |.call {callee:=.value (.tmp _),.. }=>true
 |.call {callee:=.builtin .append,.. }=>true
 |.call {callee:=.builtin .copy,.. }=>true
 |_=>false
def lu(G:List bc)(o:Op):Bool:=!sg G o
def BI(G:List bc)(ops:Array Oper)(b:Array Nat)(i j:Nat):Bool:=
 match ops[i]?,ops[j]? with
 |some x,some y=>
  (x.apart ops y||(b.getD j 0).testBit i)&&((lu G x.op&&lu G y.op)||(b.getD j 0).testBit i)
 |_,_=>true
def Ib(G:List bc)(ops:Array Oper):Bool:=
 let b:=Region.before ops
 (dD ops.size).all λj=>(match ops[j]? with|some o=>o.after.all λe=>!Region.binds .any e||bJ e.on j|none=>true)&&(dD j).all λi=>BI G ops b i j
def lj(ops:Array Oper)(i a:Nat):Bool:=(ops.toList.drop i).all λo=>match o.dst with|some d=>!(bT d a)|none=>true
def mO:List Operand->List Nat
 |[]=>[]
 |.tmp a::l=>a::mO l
 |_::l=>mO l
def pH:Op->Option (List Nat)
 |.assign x=>some (mO [x])
 |.move x=>some (mO [x])
 |.extract x _=>some (mO [x])
 |.nilCheck x=>some (mO [x])
 |.fieldAddr _ x _=>some (mO [x])
 |.buildSlice _ _ parts=>some (mO (parts.toList.map (·.2)))
 |_=>none
def lY(env:List (Nat×D))(op:Op):Option (List Nat):=
 match pH op with
 |some q=>some q
 |none=>match op with
  |.build _ parts=>some (mO (parts.toList.map (·.2)))
  |.binOp _ _ x y _=>match bq env x with|.int _ _=>some (mO [x,y])|.str _=>some (mO [x,y])|.bool _=>some (mO [x,y])|_=>none
  |.unOp _ _ x=>some (mO [x])
  |.convert _ _ x=>match bq env x with|.int _ _=>some (mO [x])|.str _=>some (mO [x])|_=>none
  |.field _ x _=>some (mO [x])
  |.index _ x y=>some (mO [x,y])
  |.slice _ x (some y) (some z) none=>match bq env x with|.str _=>some (mO [x,y,z])|_=>none
  |.slice _ x (some y) none none=>match bq env x with|.str _=>some (mO [x,y])|_=>none
  |.slice _ x none (some z) none=>match bq env x with|.str _=>some (mO [x,z])|_=>none
  |.indexAddr _ x y=>match bq env x with|.sl _ _ _=>some (mO [x,y])|_=>none
  |.load _ x=>match bq env x with|.iu _ _ _ _=>some (mO [x])|_=>none
  |.call {callee:=.builtin .len,args,.. }=>match args.toList with|[x]=>(match bq env x with|.str _=>some (mO [x])|.sl _ _ _=>some (mO [x])|_=>none)|_=>none
  |_=>none
def HS:D->Bool|.ptr _ _ _=>true|_=>false
def J6:D->Bool|.emp=>true|.du=>true|_=>false
def Dl(ops:Array Oper)(env:List (Nat×D))(i j:Nat)(op:Op)(l:List Operand):Bool:=
 match op,l with
 |.load _ (.tmp a),.tmp x::_=>lj ops i a&&(lj ops j x&&(HS (look env a)&&J6 (look env x)))
 |_,_=>false
def pF:D->Bool|.int _ _=>true|.str _=>true|.bool _=>true|.sl _ _ _=>true|.all _=>true|_=>false
def Dm(ops:Array Oper)(env:List (Nat×D))(i:Nat)(op:Op)(dst:Option Nat):Bool:=
 match op,dst with
 |.load _ (.tmp a),some t=>lj ops i a&&(HS (look env a)&&(lj ops (i+1) t&&pF (look env t)))
 |_,_=>false
def MK(G:List bc)(ops:Array Oper)(env:List (Nat×D))(i j:Nat):Bool:=
 match ops[i]?,ops[j]? with
 |some x,some y=>(match x.guard,y.guard,x.op,y.op with
  |none,none,.load _ (.tmp a),.store _ (.tmp b) _=>lj ops i a&&(lj ops j b&&(match look env a,look env b with|.ptr r _ _,.ptr r' _ _=>!(bT r r')|.iu _ _ _ _,.ptr _ _ _=>true|_,_=>false))
  |none,none,op,.store _ (.tmp b) _=>(match lY env op with|some q=>(q.all λa=>lj ops i a)&&(lj ops j b&&(match look env b with|.ptr _ _ _=>true|_=>false))|none=>false)
  |none,none,op,.call {callee:=.value (.func f),.. }=>(match(match o8 G f with|some _=>true|none=>BW G f)with|true=>false|false=>match lY env op with|some q=>q.all λa=>lj ops i a|none=>false)
  |none,none,op,.call {callee:=.builtin .append,args,.. }=>(match pH op with|some q=>(q.all λa=>lj ops i a&&HS (look env a))&&(match x.dst with|some t=>lj ops (i+1) t&&HS (look env t)|none=>true)|none=>Dl ops env i j op args.toList||Dm ops env i op x.dst)
  |_,_,_,_=>false)
 |_,_=>false
def uV(ops:Array Oper)(j:Nat):Bool:=
 match ops[j]? with
 |some y=>match y.guard,y.op with
  |none,.alloc _=>(match y.dst with|none=>true|some u=>(dD ops.size).all λk=>bT k j||(match(ops[k]?).bind (·.dst)with|some d=>!(bT d u)|none=>true))
  |_,_=>false
 |none=>false
def Ab(G:List bc)(ops:Array Oper)(env:List (Nat×D))(b:Array Nat)(i j:Nat):Bool:=
 match ops[i]?,ops[j]? with
 |some x,some y=>
  (x.apart ops y||(b.getD j 0).testBit i)&&((lu G x.op&&lu G y.op)||(b.getD j 0).testBit i||(MK G ops env i j||uV ops j))
 |_,_=>true
def Rf(G:List bc)(ops:Array Oper)(env:List (Nat×D)):Bool:=
 let b:=Region.before ops
 (dD ops.size).all λj=>(match ops[j]? with|some o=>o.after.all λe=>!Region.binds .any e||bJ e.on j|none=>true)&&(dD j).all λi=>Ab G ops env b i j
def HY(x:Nat):List Nat->Nat->List Nat
 |l,0=>x::l
 |[],_=>[x]
 |y::l,n+1=>y::HY x l n
def Dx(m:Nat):List Nat->Nat->Nat->Nat
 |[],_,r=>r
 |y::l,k,r=>Dx m l (k+1) (match m.testBit y with|true=>k+1|false=>r)
def Dy:List Oper->Bool
 |[]=>false
 |o::l=>match o.op with|.buildSlice _ 0 _=>true|_=>Dy l
def F8(e:Bool)(op:Op):Bool:=match pH op with|some _=>true|none=>(match op with|.load _ _=>e|_=>false)
def Dz(e:Bool)(ops:Array Oper)(b:Array Nat):List Nat->List Nat->List Nat
 |[],acc=>acc
 |j ::js,acc=>Dz e ops b js (match ops[j]? with
  |some o=>(match o.guard with
   |none=>(match F8 e o.op with|true=>HY j acc (Dx (b.getD j 0) acc 0 0)|false=>acc++[j])
   |some _=>acc++[j])
  |none=>acc)
def RV(ops:Array Oper)(b:Array Nat):Bool:=
 (dD ops.size).any λj=>(match ops[j]? with|some y=>(match y.op with|.load _ _=>true|_=>false)|none=>false)&&(dD j).any λi=>(match ops[i]? with|some x=>(match x.op with|.call {callee:=.builtin .append,.. }=>true|_=>false)|none=>false)&&!((b.getD j 0).testBit i)
def VC(ops:Array Oper):List Nat:=Dz (Dy ops.toList||RV ops (Region.before ops)) ops (Region.before ops) (dD ops.size) []
def Vm(p:List Nat)(n:Nat):Bool:=bT p.length n&&(((dD n).all λi=>bw i p)&&((p.all λi=>bJ i n)&&Ep p))
def Dq(p:List Nat)(e:Edge):Edge:=⟨pos e.on p 0,e.ground⟩
def MM(p:List Nat)(o:Oper):Oper:=⟨o.dst,o.op,o.type,o.pos,o.after.map (Dq p),match o.guard with|none=>none|some (j,w)=>some (pos j p 0,w)⟩
def nw(p:List Nat)(ops:Array Oper):Array Oper:=(p.map λi=>MM p (ops.getD i default)).toArray
def uS(T:fq)(G:List bc)(N M:Nat)(ops:Array Oper)(st:St)(Q:Ex->St->Prop):Prop:=
 match Ib G ops with
 |true=>mb T G N M ops ops.toList st λst=>Q .normal st
 |false=>cr (Vm (VC ops) ops.size)<|mb T G N M (nw (VC ops) ops) (nw (VC ops) ops).toList st λst=>cr (Rf G (nw (VC ops) ops) st.env) (Q .normal st)
def HK(i n:Nat):List D->Option (List D)
 |[]=>none
 |d::l=>match d,l with
  |.iM,.du::m=>some (.c8 i:: .all n::m)
  |d,l=>match HK i n l with|some l'=>some (d::l')|none=>none
def RW(T:fq)(t:TypeId):Bool:=match T.get t with|some ⟨_,_,_,_,some ds,_⟩=>(match HK 0 0 ds with|some _=>true|none=>false)|_=>false
def u7(T:fq):List Oper->Bool
 |[]=>false
 |o::l=>match o.op with|.alloc t=>(match RW T t with|true=>true|false=>u7 T l)|_=>u7 T l
def RX:fq->Option TypeId
 |[]=>none
 |(u,i)::l=>match i.kind with|.int .u8=>some u|_=>RX l
def Jam(T:fq):Code->Option TypeId
 |.region _ ops _=>(match u7 T ops.toList with|true=>RX T|false=>none)
 |_=>none
def JR(n:Nat):Rows->Nat->Option (Nat×TypeId×Nat×List D)
 |[],_=>none
 |x::l,i=>match x with
  |some ⟨true,ty,sz,.gen [e]⟩=>(match HK i n e with|some e'=>some (i,ty,sz,e')|none=>JR n l (i+1))
  |_=>JR n l (i+1)
def JS(T:fq)(a:Code)(st:St)(K:St->Prop):Prop:=
 match Jam T a with
 |none=>K st
 |some u=>match JR st.rows.length st.rows 0 with
  |none=>K st
  |some (i,ty,sz,e)=>D.jS e λe=>Qg (st.rows.set i (some ⟨true,ty,sz,.gen [e]⟩)++[some ⟨false,u,1,.ints .u8 []⟩]) λR=>K ⟨st.env,R⟩
def D.BY(R:Rows)(ks:List Nat):D->D
 |.all r=>match bw r ks with
  |true=>(match R.getD r none with|some ⟨false,_,sz,es⟩=>.sl sz es false|_=>.dead)
  |false=>.all r
 |.ptr r i off=>match bw r ks with
  |true=>(match R.getD r none with|some ⟨true,_,sz,.gen [e]⟩=>(match e.all D.plain with|true=>.iu sz (.gen [e]) i off|false=>.dead)|_=>.dead)
  |false=>.ptr r i off
 |d=>d.ej ks
def D.sB(R:Rows)(ks:List Nat):List D->List D
 |[]=>[]
 |d::l=>d.BY R ks::sB R ks l
def D.Is(R:Rows)(ks:List Nat):D->D
 |.agg cs=>.agg (D.sB R ks cs)
 |d=>d.BY R ks
def D.It(R:Rows)(ks:List Nat):List D->List D
 |[]=>[]
 |d::l=>d.Is R ks::It R ks l
def D.BZ(R:Rows)(ks:List Nat):D->D
 |.dt ds=>.dt (D.It R ks ds)
 |d=>d.Is R ks
def Row.mo(R:Rows)(ks:List Nat):Row->Row
 |⟨true,ty,sz,.gen [e]⟩=>⟨true,ty,sz,.gen [D.sB R ks e]⟩
 |r=>r
def KI(R0:Rows)(ks:List Nat):Rows->Nat->Rows
 |[],_=>[]
 |x::l,i=>(match bw i ks with|true=>none|false=>match x with|some row=>some (row.mo R0 ks)|none=>none)::KI R0 ks l (i+1)
def EN(R:Rows)(ks:List Nat):List (Nat×D)->(List (Nat×D)->Prop)->Prop
 |[],K=>K []
 |(t,d)::l,K=>(d.BZ R ks).force λd=>EN R ks l λl=>K ((t,d)::l)
def DA:List D->List Nat
 |[]=>[]
 |d::l=>(match d with|.all r=>[r]|_=>[])++DA l
def RY:D->List Nat|.agg cs=>DA cs|.all r=>[r]|_=>[]
def F9(R:Rows)(n:Nat)(d:D):List Nat:=
 match d with
 |.ptr r _ off=>match R.getD r none with|some ⟨true,_,_,.gen [e]⟩=>DA ((e.drop off).take n)|_=>[]
 |_=>[]
def HZ:List (Nat×List Nat)->Nat->Option (List Nat)
 |[],_=>none
 |(u,x)::l,t=>match bT u t with|true=>some x|false=>HZ l t
def MT(env:List (Nat×D)):List (Nat×D)->Nat->D
 |[],t=>look env t
 |(u,x)::l,t=>match bT u t with|true=>x|false=>MT env l t
def u9(env:List (Nat×D))(acc:List (Nat×List Nat)):Operand->List Nat
 |.tmp t=>match HZ acc t with|some l=>l|none=>RY (look env t)
 |_=>[]
def Ae(env:List (Nat×D))(acc:List (Nat×List Nat)):List Operand->List Nat
 |[]=>[]
 |x::l=>u9 env acc x++Ae env acc l
def Kl(T:fq)(env:List (Nat×D))(R:Rows)(acc:List (Nat×List Nat))(pa:List (Nat×D))(o:Oper):List (Nat×List Nat):=
 match o.dst with
 |none=>acc
 |some t=>match o.op with
  |.load ty (.tmp p)=>(t,F9 R (match T.get ty with|some i=>i.size|none=>0) (MT env pa p))::acc
  |.move x=>(t,u9 env acc x)::acc
  |.slice _ x _ _ _=>(t,u9 env acc x)::acc
  |_=>acc
def Km(T:fq)(env:List (Nat×D))(pa:List (Nat×D))(o:Oper):List (Nat×D):=
 match o.dst with
 |none=>pa
 |some t=>match o.op with
  |.fieldAddr s (.tmp p) f=>(match QD T s f with|some (k,_,_)=>(match MT env pa p with|.ptr r i off=>(t,.ptr r i (off+k))::pa|_=>pa)|none=>pa)
  |.move (.tmp p)=>(t,MT env pa p)::pa
  |.nilCheck (.tmp p)=>(t,MT env pa p)::pa
  |_=>pa
def Kn(G:List bc)(f:FuncId):Bool:=match oO G f with|some x=>x.pf||(match x.refs with|[]=>!x.flat|_=>false)|none=>false
def RZ(T:fq)(env:List (Nat×D))(pa:List (Nat×D))(t:TypeId)(p:Nat):List Nat:=
 match T.get t with
 |some ⟨.array _ _ _,_,_,_,_,_⟩=>(match MT env pa p with|.ptr r _ _=>[r]|_=>[])
 |_=>[]
def SN(T:fq)(G:List bc)(env:List (Nat×D))(R:Rows):List (Nat×List Nat)->List (Nat×D)->List Oper->List Nat
 |_,_,[]=>[]
 |acc,pa,o::l=>(match o.op with|.call {callee:=.value (.func f),args,.. }=>(match Kn G f with|true=>Ae env acc args.toList|false=>[])|.slice t (.tmp p) _ _ _=>RZ T env pa t p|_=>[])++SN T G env R (Kl T env R acc pa o) (Km T env pa o) l
def uk(M:Nat)(R:Rows):List Nat->List Nat
 |[]=>[]
 |r::l=>match gR M r&&(match R.getD r none with|some ⟨false,_,_,_⟩=>true|some ⟨true,_,_,.gen [e]⟩=>e.all D.plain|_=>false)with|true=>r::uk M R l|false=>uk M R l
def Iu(T:fq)(G:List bc)(M:Nat)(ops:Array Oper)(st:St)(K:St->Prop):Prop:=
 match uk M st.rows (SN T G st.env st.rows [] [] ops.toList)with
 |[]=>K st
 |ks=>EN st.rows ks st.env λenv=>Qg (KI st.rows ks st.rows 0) λR=>K ⟨env,R⟩
def um(T:fq)(R:Rows)(i:Nat):Option (TypeId×Nat×TypeId×Nat):=
 match R.getD i none with
 |some ⟨true,ty,sz,.gen [[d]]⟩=>(match d with
  |.du=>(match T.get ty with|some ⟨.slice e n,_,_,_,_,_⟩=>(match bJ 0 n with|true=>some (ty,sz,e,n)|false=>none)|_=>none)
  |.emp=>(match T.get ty with|some ⟨.slice e n,_,_,_,_,_⟩=>(match bJ 0 n with|true=>some (ty,sz,e,n)|false=>none)|_=>none)
  |_=>none)
 |_=>none
def Iv(T:fq):List iv->List (Nat×D)->Rows->(Rows->Prop)->Prop
 |[],_,R,K=>K R
 |.ptr i _ _::l,env,R,K=>(match um T R i with
  |some (ty,sz,e,n)=>Ba R ⟨false,e,n,.gen []⟩ λk R=>Qg (R.set i (some ⟨true,ty,sz,.gen [[.all k]]⟩)) λR=>Iv T l env R K
  |none=>Iv T l env R K)
 |_::l,env,R,K=>Iv T l env R K
def VD(env:List (Nat×D)):List Operand->List iv
 |[]=>[]
 |.tmp t::l=>(match look env t with|.ptr i o f=>.ptr i o f::VD env l|_=>VD env l)
 |_::l=>VD env l
def Af(env:List (Nat×D)):List Oper->List iv
 |[]=>[]
 |o::l=>(match o.op with|.makeFunc _ _ captured=>VD env captured.toList|_=>[])++Af env l
def ph(T:fq)(G:List bc)(N M:Nat)(L:Code->St->(Ex->St->Prop)->Prop):Code->St->(Ex->St->Prop)->Prop
 |.skip,st,Q=>Q .normal st
 |.label _,st,Q=>Q .normal st
 |.region _ ops draw,st,Q=>Iv T (Af st.env ops.toList) st.env st.rows λR=>Iu T G M ops ⟨st.env,R⟩ λst=>match draw with|true=>uS T G N M ops st Q|false=>mb T G N M ops ops.toList st λst=>Q .normal st
 |.seq a b,st,Q=>ph T G N M L a st λe st=>match e with|.normal=>JS T a st λst=>ph T G N M L b st Q|.exit i=>Q (.exit i) st|.ret=>Q .ret st
 |.cond c a b,st,Q=>match bq st.env c with
  |.bool t=>DJ t (ph T G N M L a (st.kG c true) Q) (ph T G N M L b (st.kG c false) Q)
  |.pY es=>(es.Nil->ph T G N M L a (st.kG c true) Q)/\ph T G N M L b (st.kG c false) Q
  |_=>False
 |.block id c,st,Q=>ph T G N M L c st λe st=>match e with|.normal=>Q .normal st|.exit i=>(match bT i id with|true=>Q .normal st|false=>Q (.exit i) st)|.ret=>Q .ret st
 |.exit id,st,Q=>Q (.exit id) st
 |.ret,st,Q=>Q .ret st
 |.scope c,st,Q=>ph T G N M L c st Q
 |c,st,Q=>L c st Q
def FX(T:fq)(R:Rows)(env:List (Nat×D)):List ResultVar->(List D->Prop)->Prop
 |[],K=>K []
 |.tmp t::l,K=>(look env t).force λd=>cr d.isVal (FX T R env l λds=>K (d::ds))
 |.cell a t::l,K=>w5 T t (look env a) R λd _=>cr d.isVal (FX T R env l λds=>K (d::ds))
def kH(ex:List Nat)(i r:Nat):Bool:=match ex[i]? with|some x=>bT x r|none=>false
def KM(ex:List Nat)(r:Nat):Bool:=ex.all λx=>!(bT x r)
def IJ(ex:List Nat)(R:Rows)(i:Nat):Bool:=match ex[i]? with|some r=>(match R.getD r none with|none=>true|some _=>false)|none=>false
def ao.Eq:ao->ao->Prop
 |.ints k l,.ints k' m=>match decide (k=k')with|true=>l=m|false=>(ao.ints k l).l=(ao.ints k' m).l
 |.bo l,.bo m=>l=m
 |.gen es,.gen fs=>es=fs
 |.gen [],.ints _ m=>m=[]
 |.gen [],.bo m=>m=[]
 |.gen [],.av _ m=>m=[]
 |.av k l,.av k' m=>(match Gd k k' l with|some l'=>l'=m|none=>(ao.av k l).l=(ao.av k' m).l)
 |E,F=>E.l=F.l
theorem ao.Aw{E F:ao}(h:ao.Eq E F):E.l=F.l:=by
 cases E with
 |gen es=>
  cases es with
  |nil=>cases F<;>simp_all [ao.Eq,ao.l]
  |cons e es=>cases F<;>simp_all [ao.Eq,ao.l]
 |ints k l=>
  cases F with
  |ints k' m=>
   simp only[ao.Eq]at h
   split at h
   ·rename_i hk;subst h;rw[oY hk]
   ·exact h
  |_=>exact h
 |bo l=>
  cases F with
  |bo m=>simp only[ao.Eq]at h;rw[h]
  |_=>exact h
 |av k l=>
  cases F with
  |av k' m=>
   simp only[ao.Eq]at h
   split at h
   ·rename_i l' hc
    obtain⟨e,hm⟩:=Ws hc
    subst e
    simp only at hm
    rw[<-h,<-hm]
   ·exact h
  |_=>exact h
theorem ao.ot{E:ao}:E.Nil↔E.l=[]:=by
 cases E<;>simp[ao.Nil,ao.l]
def sE(ex:List Nat):List (Nat×Nat×Nat)->List (Nat×Nat×Nat)->Bool
 |[],[]=>true
 |(i,b,c)::l,(r,y,z)::m=>kH ex i r&&(bT b y&&(bT c z&&sE ex l m))
 |_,_=>false
def pk(ex:List Nat):List iv->List iv->Bool
 |[],[]=>true
 |.ptr i b c::l,.ptr r y z::m=>kH ex i r&&(bT b y&&(bT c z&&pk ex l m))
 |.fn f ps::l,.fn g qs::m=>bT f g&&(sE ex ps qs&&pk ex l m)
 |_,_=>false
def jv(ex:List Nat)(m:Nat)(R:Rows)(d p:D):Prop:=
 match p with
 |.int k n=>match d with|.int j q=>cr (decide (j=k)) (q=n)|_=>False
 |.bool b=>match d with|.bool a=>a=b|_=>False
 |.str s=>match d with|.str u=>u=s|_=>False
 |.iM=>match d with|.iM=>True|_=>False
 |.jJ=>match d with|.jJ=>True|_=>False
 |.gq f cs=>match d with|.gq g ds=>cr (bT f g&&pk ex cs ds) True|_=>False
 |.ptr i o f=>match d with|.ptr r o' f'=>cr (kH ex i r&&(bT o o'&&bT f f')) True|_=>False
 |.c8 i=>match d with|.iM=>True|.c8 r=>cr (kH ex i r) True|.ptr r o f=>cr (kH ex i r&&(bT o 0&&bT f 0)) True|_=>False
 |.du=>match d with|.du=>True|_=>False
 |.emp=>match d with|.du=>True|.emp=>True|_=>False
 |.sl sz es fr=>match d with
  |.du=>es.Nil
  |.emp=>es.Nil
  |.sl kB jc fr'=>cr (!fr||fr') ((jc.Nil\/kB=sz)/\ao.Eq jc es)
  |.all r=>match R.getD r none with
   |some ⟨box,_,kB,jc⟩=>cr (!box&&bT kB sz&&KM ex r&&gR m r) (ao.Eq jc es)
   |none=>False
  |.own r o n=>match R.getD r none with
   |some ⟨box,_,kB,jc⟩=>cr (!box&&bT kB sz&&KM ex r&&gR m r) (ao.Eq ((jc.drop o).take n) es)
   |none=>False
  |_=>False
 |.all i=>match d with|.all r=>cr (kH ex i r) True|.du=>cr (IJ ex R i) True|.emp=>cr (IJ ex R i) True|_=>False
 |.own i o n=>match d with|.own r o' n'=>cr (kH ex i r) (o'=o/\n'=n)|_=>False
 |.dead=>cr d.HM True
 |_=>False
def EV(ex:List Nat)(m:Nat)(R:Rows):List D->List D->Prop
 |[],[]=>True
 |d::ds,p::ps=>jv ex m R d p/\EV ex m R ds ps
 |_,_=>False
def rh(ex:List Nat)(m:Nat)(R:Rows)(d p:D):Prop:=
 match p with
 |.agg ps=>match d with|.agg ds=>EV ex m R ds ps|_=>False
 |p=>jv ex m R d p
def wA(ex:List Nat)(m:Nat)(R:Rows):List D->List D->Prop
 |[],[]=>True
 |d::ds,p::ps=>rh ex m R d p/\wA ex m R ds ps
 |_,_=>False
def Au(ex:List Nat)(m:Nat)(R:Rows)(d p:D):Prop:=
 match p with
 |.dt ps=>match d with|.dt ds=>wA ex m R ds ps|_=>False
 |p=>rh ex m R d p
def na(ex:List Nat)(m:Nat)(R:Rows):List Nat->List Row->Prop
 |[],[]=>True
 |r ::rs,⟨box,ty,sz,es⟩::ps=>(match R.getD r none with
  |some ⟨Az,jU,kB,jc⟩=>cr (Bool.xor (!box) Az&&bT ty jU&&bT sz kB) (match box with
   |false=>ao.Eq jc es
   |true=>match jc,es with|.gen [e'],.gen [e]=>EV ex m R e' e|_,_=>False)
  |none=>cr (!box&&bJ 0 sz) es.Nil)/\na ex m R rs ps
 |_,_=>False
def H0(R:Rows)(p d:D):List (Nat×Nat):=
 match p with
 |.all i=>match d with|.all r=>[(i,r)]|_=>[]
 |_=>[]
def H2(R:Rows):List D->List D->List (Nat×Nat)
 |p::ps,d::ds=>H0 R p d++H2 R ps ds
 |_,_=>[]
def Jt(R:Rows)(p d:D):List (Nat×Nat):=
 match p with
 |.agg ps=>match d with|.agg ds=>H2 R ps ds|_=>[]
 |p=>H0 R p d
def newAt(n0:Nat):List (Nat×Nat)->Nat->Nat
 |[],i=>n0+i
 |(j,r)::l,i=>match bT j i with|true=>r|false=>newAt n0 l i
def news(n0:Nat)(l:List (Nat×Nat)):Nat->Nat->List Nat
 |_,0=>[]
 |i,n+1=>newAt n0 l i::news n0 l (i+1) n
def Aa:List Nat->List Nat->Bool
 |[],[]=>true
 |x::l,y::m=>bT x y&&Aa l m
 |_,_=>false
def Av(M:Nat)(ex:List Nat):Bool:=(Aa (ex.take M) (dD M)&&(ex.drop M).all λr=>gR M r)&&Ep (ex.drop M)
def AB(m:Nat)(res:D)(rows:List Row)(d:D)(R:Rows):Prop:=
 ∃ex,Av m ex=true/\Au ex m R d res/\na ex m R ex rows
def FW:List D->Nat->List (Nat×D)
 |[],_=>[]
 |d::ds,i=>(i,d)::FW ds (i+1)
def nz(T:fq)(G:List bc)(L:Code->St->(Ex->St->Prop)->Prop)(fn:Func)(args:List D)(rows:List Row)(Q:D->Rows->Prop):Prop:=
 match fn.body with
 |some c=>ph T G fn.ntmps rows.length L c ⟨FW args 0,rows.map some⟩ λe st=>match e with
  |.exit _=>False
  |_=>FX T st.rows st.env fn.results.toList λds=>match ds with|[d]=>Q d st.rows|ds=>Q (.dt ds) st.rows
 |none=>False
def oE:List Nat->List D->List (Nat×D)
 |t::ts,d::ds=>(t,d)::oE ts ds
 |_,_=>[]
def AX:List iv->List Nat
 |[]=>[]
 |.fn f _::l=>f::AX l
 |_::l=>AX l
def AY:D->List Nat|.gq f cs=>f::AX cs|_=>[]
def rD:List D->List Nat
 |[]=>[]
 |d::l=>AY d++rD l
def FN:D->List Nat|.agg cs=>rD cs|d=>AY d
def pC:List D->List Nat
 |[]=>[]
 |d::l=>FN d++pC l
def CQ:D->List Nat|.dt ds=>pC ds|d=>FN d
def kX:List Row->List Nat
 |[]=>[]
 |⟨true,_,_,.gen [e]⟩::l=>rD e++kX l
 |_::l=>kX l
def Gm:Rows->List Nat
 |[]=>[]
 |some r::l=>kX [r]++Gm l
 |none::l=>Gm l
def sD(l:List Nat):Bool:=l.all λf=>bJ f YB
def Ax:List (Nat×D)->List Nat
 |[]=>[]
 |(_,d)::l=>CQ d++Ax l
def JZ (T:fq)(G:List bc)(L:Code->St->(Ex->St->Prop)->Prop)(fn:Func)(args:List D)(rows:List Row)(Q:D->Rows->Prop)(M:Nat):Prop:=
 match fn.body with
 |some c =>match gR YB fn.nfree with
  |true =>match bT fn.nfree YB with
   |true=>ph T G fn.ntmps M L c ⟨oE fn.params.toList args,rows.map some⟩ λe st=>match e with
    |.normal=>Q (.bool true) st.rows
    |_=>False
   |false=>match c with
    |.seq a b=>ph T G fn.ntmps M L a ⟨oE fn.params.toList args,rows.map some⟩ λe st=>match e with
     |.normal=>cr (sD (Ax st.env++Gm st.rows)) (ph T G fn.ntmps M L b st λe st=>match e with
      |.normal=>Q (.bool true) st.rows
      |_=>False)
     |_=>False
    |_=>False
  |false=>ph T G fn.ntmps M L c ⟨FW args 0,rows.map some⟩ λe st=>match e with
  |.exit _=>False
  |_=>FX T st.rows st.env fn.results.toList λds=>match ds with|[d]=>Q d st.rows|ds=>Q (.dt ds) st.rows
 |none=>False
