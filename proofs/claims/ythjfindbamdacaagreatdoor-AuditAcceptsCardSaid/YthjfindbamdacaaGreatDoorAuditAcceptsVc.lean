import Derived.Test.YthjfindbamdacaaGreatDoorAuditAcceptsFy
open Nat renaming beq->bT,blt->bJ,ble->gQ
open BitVec renaming ofInt->dW
open List renaming range->dD
set_option linter.all false
namespace Go.GD
open Go
variable {b:Bool}{p:Prop}
def cv(b:Bool)(p:Prop):Prop:=match b with|true=>p|false=>False
def Ec(b:Bool)(p q:Prop):Prop:=match b with|true=>p|false=>q
theorem db:cv b p↔b=true/\p:=by cases b<;>simp[cv]
theorem Zhh{p q:Prop}:Ec b p q↔(b=true->p)/\(b=false->q):=by cases b<;>simp[Ec]
abbrev Rows:=List (Option Row)
namespace D
def Gc(n:Nat):D->Bool|.sl m _ _=>bT m n|.dx=>true|.emp=>true|_=>false
def toEs:D->ak|.sl _ es _=>es|_=>.gen []
def wu:D->Bool|.agg _=>false|.dt _=>false|.dead=>false|_=>true
def isVal:D->Bool|.dt _=>false|.dead=>false|_=>true
def H0:D->Bool|.agg _=>false|.dt _=>false|_=>true
def plain:D->Bool|.bool _=>true|.int _ _=>true|.str _=>true|.iO=>true|.dx=>true|.emp=>true|.sl _ _ _=>true|_=>false
def cells:D->List D|.agg cs=>cs|d=>[d]
def force:D->(D->Prop)->Prop
 |.bool b,K=>K (.bool b)
 |.int k n,K=>K (.int k n)
 |.str s,K=>K (.str s)
 |.sl a b c,K=>K (.sl a b c)
 |.all a,K=>K (.all a)
 |.own a b c,K=>K (.own a b c)
 |.ptr a b c,K=>K (.ptr a b c)
 |.pa a b c d e f,K=>K (.pa a b c d e f)
 |.iv a b c d,K=>K (.iv a b c d)
 |.iO,K=>K .iO
 |.dx,K=>K .dx
 |.emp,K=>K .emp
 |.rz es,K=>K (.rz es)
 |.dead,K=>K .dead
 |.gq a b,K=>K (.gq a b)
 |.c9 a,K=>K (.c9 a)
 |.jP,K=>K .jP
 |.agg a,K=>K (.agg a)
 |.dt a,K=>K (.dt a)
end D
def D.j4:List D->(List D->Prop)->Prop
 |[],K=>K []
 |d::l,K=>d.force λd=>j4 l λl=>K (d::l)
def uc:Rows->(Rows->Prop)->Prop
 |[],K=>K []
 |d::l,K=>uc l λl=>K (d::l)
inductive tO where
 |int (k:IntKind)|bool|str|sl (n:Nat)|other
inductive TK where
 |int (k:IntKind)|bool|string
 |slice (e:TypeId) (n:Nat)
 |struct (fs:List (Nat×TypeId×Nat))
 |array (len:Nat) (e:TypeId) (n:Nat)
 |other
structure TI where
 kind:TK
 size:Nat
 bytes:Nat
 tj:List tO
 zero:Option (List D)
 eq:Bool
abbrev iM:=List (TypeId×TI)
def iM.get:iM->TypeId->Option TI
 |[],_=>none
 |(u,i)::l,t=>match bT u t with|true=>some i|false=>iM.get l t
def TK.isAgg:TK->Bool|.struct _=>true|.array _ _ _=>true|_=>false
def u6(pl:Bool):tO->D->(D->Prop)->Prop
 |.int k,c,K=>cv (c.isInt k) (K (.int k c.toInt))
 |.bool,c,K=>cv c.isBool (K (.bool c.toBool))
 |.str,c,K=>cv c.isStr (K (.str c.toStr))
 |.sl n,c,K=>match pl with
  |true=>cv (c.Gc n) (K (.sl n c.toEs false))
  |false=>cv c.wu (c.force K)
 |.other,c,K=>match pl with
  |true=>match c with|.iO=>K .iO|_=>False
  |false=>cv c.wu (c.force K)
def J4(pl:Bool)(e:List D):List tO->Nat->(List D->Prop)->Prop
 |[],_,K=>K []
 |t::ts,off,K=>u6 pl t (e.getD off .dead) λd=>J4 pl e ts (off+1) λds=>K (d::ds)
def Qi(pl:Bool)(t:TI)(e:List D)(off:Nat)(K:D->Prop):Prop:=
 match t.kind.isAgg with
 |true=>J4 pl e t.tj off λds=>K (.agg ds)
 |false=>match t.tj with
  |[y]=>u6 pl y (e.getD off .dead) K
  |_=>False
def lD:List D->Nat->List D->List D
 |e,_,[]=>e
 |e,off,v::vs=>lD (e.set off v) (off+1) vs
def Rc:Value->Option D
 |.bool b=>some (.bool b)
 |.int k n=>some (.int k n)
 |.string s=>some (.str s.data.toList)
 |.slice none 0 0=>some .dx
 |.pointer none=>some .iO
 |.nilIface=>some .jP
 |.nilFunc=>some .dead
 |_=>none
def BK:List Value->Option (List D)
 |[]=>some []
 |v::vs=>match Rc v,BK vs with|some d,some ds=>some (d::ds)|_,_=>none
def Gy:Value->Option D
 |.agg cs=>(BK cs.toList).map .agg
 |v=>Rc v
structure St where
 env:List (Nat×D)
 rows:Rows
def look:List (Nat×D)->Nat->D
 |[],_=>.dead
 |(u,d)::l,t=>match bT u t with|true=>d|false=>look l t
def cb(env:List (Nat×D)):Operand->D
 |.tmp t=>look env t
 |.const v=>(Gy v).getD .dead
 |.func f=>match bJ f YB with|true=>.gq f []|false=>.dead
 |_=>.dead
def bd(k:IntKind)(x y:Int):Int:=k.wrap (dW k.bits x&&&dW k.bits y).toNat
def ij(k:IntKind)(x y:Int):Int:=k.wrap (dW k.bits x|||dW k.bits y).toNat
def nu(k:IntKind)(x y:Int):Int:=k.wrap (dW k.bits x^^^dW k.bits y).toNat
def oa(k:IntKind)(x y:Int):Int:=k.wrap (dW k.bits x&&&~~~dW k.bits y).toNat
def ek(k:IntKind)(x y:Int):Int:=k.wrap (x*2^(min y.toNat k.bits))
def bg(k:IntKind)(x y:Int):Int:=x.fdiv (2^(min y.toNat k.bits))
def Vo(op:BinOp)(k:IntKind)(x y:Int)(K:D->Prop):Prop:=
 match op with
 |.add=>K (.int k (k.wrap (x+y)))
 |.sub=>K (.int k (k.wrap (x-y)))
 |.mul=>K (.int k (k.wrap (x*y)))
 |.quo=>cv (decide (y≠0)) (K (.int k (k.wrap (x.tdiv y))))
 |.rem=>cv (decide (y≠0)) (K (.int k (x.tmod y)))
 |.and=>K (.int k (bd k x y))
 |.or=>K (.int k (ij k x y))
 |.xor=>K (.int k (nu k x y))
 |.andNot=>K (.int k (oa k x y))
 |.eql=>K (.bool (x==y))
 |.neq=>K (.bool (x !=y))
 |.lss=>K (.bool (decide (x<y)))
 |.leq=>K (.bool (decide (x<=y)))
 |.gtr=>K (.bool (decide (x>y)))
 |.geq=>K (.bool (decide (x>=y)))
 |_=>False
def P7:D->D->Bool
 |.int _ a,.int _ b=>a==b
 |.bool a,.bool b=>a==b
 |.str a,.str b=>decide (a=b)
 |_,_=>false
def eqs:List D->List D->Bool
 |[],_=>true
 |a::l,b::m=>P7 a b&&eqs l m
 |_::_,[]=>false
def fits:List tO->List D->Bool
 |[],[]=>true
 |.int k::t,d::l=>d.isInt k&&fits t l
 |.bool::t,d::l=>d.isBool&&fits t l
 |.str::t,d::l=>d.isStr&&fits t l
 |_,_=>false
def tl(T:iM)(op:BinOp)(t:TypeId)(x y:D)(K:D->Prop):Prop:=
 match x,y with
 |.int k a,.int k' b=>
  match op with
  |.shl=>cv (decide (0<=b)) (K (.int k (ek k a b)))
  |.shr=>cv (decide (0<=b)) (K (.int k (bg k a b)))
  |op=>cv (decide (k=k')) (Vo op k a b K)
 |.str a,.str b=>
  match op with
  |.add=>cv (decide (a.length+b.length<=maxLen)) (K (.str (a++b)))
  |.eql=>K (.bool (decide (a=b)))
  |.neq=>K (.bool (!decide (a=b)))
  |_=>False
 |.bool a,.bool b=>
  match T.get t with
  |some ⟨.bool,_,_,_,_,_⟩=>match op with
   |.eql=>K (.bool (a==b))
   |.neq=>K (.bool (!(a==b)))
   |_=>False
  |_=>False
 |.agg a,.agg b=>
  match T.get t with
  |some ti=>cv (ti.kind.isAgg&&bJ 0 ti.size&&ti.eq&&fits ti.tj a&&fits ti.tj b)<|
   match op with
   |.eql=>K (.bool (eqs a b))
   |.neq=>K (.bool (!(eqs a b)))
   |_=>False
  |none=>False
 |_,_=>False
def MX(T:iM)(s d:TypeId)(x:D)(K:D->Prop):Prop:=
 match T.get s,T.get d with
 |some ⟨.int _,_,_,_,_,_⟩,some ⟨.int k,_,_,_,_,_⟩=>match x with
  |.int _ n=>K (.int k (k.wrap n))
  |_=>False
 |some ⟨.string,_,_,_,_,_⟩,some ⟨.string,_,_,_,_,_⟩=>match x with
  |.str s=>K (.str s)
  |_=>False
 |_,_=>False
def QZ(T:iM)(s:TypeId)(f:Nat):Option (Nat×TypeId×Nat):=
 match T.get s with
 |some ⟨.struct fs,_,_,_,_,_⟩=>fs[f]?
 |_=>none
def Gh(place:Nat->Option (Nat×Nat))(ev:Operand->D):List (Nat×Operand)->List D->(List D->Prop)->Prop
 |[],cs,K=>D.j4 cs K
 |(i,x)::ps,cs,K=>match place i with
  |some (off,n)=>cv ((ev x).isVal&&bT (ev x).cells.length n&&gQ (off+n) cs.length) (Gh place ev ps (lD cs off (ev x).cells) K)
  |none=>False
def D.Ri:D->D|.sl a b _=>.sl a b false|d=>d
def HV:List D->List D
 |[]=>[]
 |d::l=>d.Ri::HV l
def HW(n len:Nat)(ev:Operand->D):List (Nat×Operand)->List (List D)->(List (List D)->Prop)->Prop
 |[],es,K=>K es
 |(i,x)::ps,es,K=>cv (((ev x).isVal&&(HV (ev x).cells).all D.plain)&&bT (HV (ev x).cells).length n&&bJ i len) (HW n len ev ps (es.set i (HV (ev x).cells)) K)
def Ag(row:Row):Rows->Nat->(Nat->Rows->Prop)->Prop
 |[],n,K=>K n [some row]
 |x::l,n,K=>Ag row l (n+1) λk l=>K k (x::l)
def Bl(R:Rows)(row:Row)(K:Nat->Rows->Prop):Prop:=Ag row R 0 K
def ints(e:List D)(off:Nat):Nat->List Int
 |0=>[]
 |n+1=>(e.getD off .dead).toInt::ints e (off+1) n
def bw(e:List D)(off:Nat):Nat->List Bool
 |0=>[]
 |n+1=>(e.getD off .dead).toBool::bw e (off+1) n
def Dl(k:IntKind)(e:List D)(off:Nat):Nat->Bool
 |0=>true
 |n+1=>(e.getD off .dead).isInt k&&Dl k e (off+1) n
def HM(e:List D)(off:Nat):Nat->Bool
 |0=>true
 |n+1=>(e.getD off .dead).isBool&&HM e (off+1) n
def HT(k:IntKind)(l:List Int)(j:Nat):Nat->List D
 |0=>[]
 |n+1=>.int k (l.getD j 0)::HT k l (j+1) n
def HU(l:List Bool)(j:Nat):Nat->List D
 |0=>[]
 |n+1=>.bool (l.getD j false)::HU l (j+1) n
def Ah(T:iM)(t:TypeId)(x:D)(R:Rows)(K:D->Rows->Prop):Prop:=
 match T.get t with
 |none=>False
 |some ti=>match x with
  |.ptr r i off=>match R.getD r none with
   |some ⟨box,_,sz,es⟩=>cv (gQ (off+ti.size) sz) (Qi (!box) ti (es.get i) off λd=>K d R)
   |none=>False
  |.pa r i off len k n=>match R.getD r none with
   |some ⟨_,_,sz,es⟩=>cv (gQ (off+len) sz)<|match ti.kind,k with
    |.int j,some k=>cv (decide (j=k)&&Dl k (es.get i) off len) (K (.int k ((ints (es.get i) off len).getD n 0)) R)
    |.bool,none=>cv (HM (es.get i) off len) (K (.bool ((bw (es.get i) off len).getD n false)) R)
    |_,_=>False
   |none=>False
  |.iv sz es i off=>cv (gQ (off+ti.size) sz) (Qi true ti (es.get i) off λd=>K d R)
  |_=>False
def Qp(T:iM)(t:TypeId)(x d:D)(R:Rows)(K:D->Rows->Prop):Prop:=
 match T.get t with
 |none=>False
 | some ti=>match x with
   | .ptr r i off=>match R.getD r none with
     | some ⟨box,ty,sz,es⟩=>cv (bJ 0 ti.size&&d.isVal&&bT d.cells.length ti.size&&gQ (off+ti.size) sz)<|match box with
       |true=>D.j4 (lD (es.get i) off d.cells) λe=>uc (R.set r (some ⟨true,ty,sz, .gen [e]⟩)) λR=>K .dead R
       |false=>cv (d.cells.all D.plain) (uc (R.set r (some ⟨false,ty,sz,es.set i (lD (es.get i) off d.cells)⟩)) λR=>K .dead R)
     |none=>False
   | .pa r i off len k n=>match R.getD r none with
     | some ⟨box,ty,sz,es⟩=>cv (box&&gQ (off+len) sz)<|match ti.kind,k,d with
       | .int j,some k, .int k' v=>cv (decide (j=k)&&decide (k'=k)&&Dl k (es.get i) off len)<|
         D.j4 (lD (es.get i) off (HT k ((ints (es.get i) off len).set n v) 0 len)) λe=>uc (R.set r (some ⟨true,ty,sz, .gen [e]⟩)) λR=>K .dead R
       | .bool,none, .bool v=>cv (HM (es.get i) off len)<|
         D.j4 (lD (es.get i) off (HU ((bw (es.get i) off len).set n v) 0 len)) λe=>uc (R.set r (some ⟨true,ty,sz, .gen [e]⟩)) λR=>K .dead R
       |_,_,_=>False
     |none=>False
   |_=>False
def Vq(T:iM)(t:TypeId)(x:D)(Vp:Bool)(n:Int)(R:Rows)(K:D->Rows->Prop):Prop:=
 match T.get t with
 |some ⟨.slice _ iP,_,_,_,_,_⟩=>match x with
  |.sl sz es _=>cv (bT sz iP&&bJ 0 iP&&decide (0<=n/\n<es.len)) (K (.iv sz es n.toNat 0) R)
  |.own r o m=>match R.getD r none with
   |some ⟨_,_,sz,_⟩=>cv (bT sz iP&&bJ 0 iP&&decide (0<=n/\n<m)) (K (.ptr r (o+n.toNat) 0) R)
   |none=>False
  |.all r=>match R.getD r none with
   |some ⟨_,_,sz,es⟩=>cv (bT sz iP&&bJ 0 iP&&decide (0<=n/\n<es.len)) (K (.ptr r n.toNat 0) R)
   |none=>False
  |_=>False
 |some ⟨.array len e iP,_,_,_,_,_⟩=>cv (bJ 0 iP&&decide (0<=n/\n<len))<|match x with
  |.ptr r i off=>match Vp with
   |true=>K (.ptr r i (off+n.toNat*iP)) R
   |false=>match T.get e with
    |some ⟨.int k,_,_,_,_,_⟩=>cv (bT iP 1) (K (.pa r i off len (some k) n.toNat) R)
    |some ⟨.bool,_,_,_,_,_⟩=>cv (bT iP 1) (K (.pa r i off len none n.toNat) R)
    |_=>K (.ptr r i (off+n.toNat*iP)) R
  |.iv sz es i off=>K (.iv sz es i (off+n.toNat*iP)) R
  |_=>False
 |_=>False
def sx(x:Option Operand)(ev:Operand->D)(n:Int):Option Int:=match x with|none=>some n|some y=>match ev y with|.int _ m=>some m|_=>none
def MY(T:iM)(t:TypeId)(x:D)(lo hi:Option Operand)(ev:Operand->D)(R:Rows)(K:D->Rows->Prop):Prop:=
 match T.get t with
 |some ⟨.string,_,_,_,_,_⟩=>match x with
  |.str s=>match sx lo ev 0,sx hi ev s.length with
   |some l,some h=>cv (decide (0<=l/\l<=h/\h<=s.length)) (K (.str ((s.drop l.toNat).take (h.toNat-l.toNat))) R)
   |_,_=>False
  |_=>False
 |some ⟨.slice _ iP,_,_,_,_,_⟩=>match x with
  |.sl sz es fr=>match sx lo ev 0,sx hi ev es.len with
   |some l,some h=>cv (bT sz iP&&bJ 0 iP&&decide (0<=l/\l<=h/\h<=es.len)) (K (.sl sz ((es.drop l.toNat).take (h.toNat-l.toNat)) fr) R)
   |_,_=>False
  |.all r=>match R.getD r none with
   |some ⟨_,_,sz,es⟩=>match sx lo ev 0,sx hi ev es.len with
    |some l,some h=>cv (bT sz iP&&bJ 0 iP&&decide (0<=l/\l<=h/\h<=es.len)) (K (.own r l.toNat (h.toNat-l.toNat)) R)
    |_,_=>False
   |none=>False
  |.own r o n=>match R.getD r none with
   |some ⟨_,_,sz,_⟩=>match sx lo ev 0,sx hi ev n with
    |some l,some h=>cv (bT sz iP&&bJ 0 iP&&decide (0<=l/\l<=h/\h<=n)) (K (.own r (o+l.toNat) (h.toNat-l.toNat)) R)
    |_,_=>False
   |none=>False
  |_=>False
 |some ⟨.array len e iP,_,_,_,_,_⟩=>match x,lo,hi with
  |.iv sz es i off,none,none=>match T.get e with
   |some ⟨.int k,_,_,_,_,_⟩=>cv (bT iP 1&&(gQ (off+len) sz&&Dl k (es.get i) off len)) (K (.sl 1 (.ints k (ints (es.get i) off len)) false) R)
   |_=>False
  |_,_,_=>False
 |_=>False
def u9(T:iM)(t:TypeId)(n m:Int)(R:Rows)(K:D->Rows->Prop):Prop:=
 match T.get t with
 |some ⟨.slice e _,_,_,_,_,_⟩=>match T.get e with
  |some ⟨_,sz,lZ,_,some z,_⟩=>cv (bJ 0 sz&&bT z.length sz&&z.all D.plain&&decide (0<=n/\n<=m/\m<=9223372036854775807/\(lZ:Int)*m<=140737488355328))
   (Bl R ⟨false,e,sz,ak.Gi e n.toNat z⟩ λk R=>K (.all k) R)
  |_=>False
 |_=>False
def tu(T:iM)(t:TypeId)(x:D)(R:Rows)(K:D->Rows->Prop):Prop:=
 match T.get t with
 |some ⟨.string,_,_,_,_,_⟩=>match x with
  |.str s=>K (.int .i64 s.length) R
  |_=>False
 |some ⟨.slice _ _,_,_,_,_,_⟩=>match x with
  |.sl _ es _=>K (.int .i64 es.len) R
  |.own _ _ n=>K (.int .i64 n) R
  |.all r=>match R.getD r none with
   |some ⟨_,_,_,es⟩=>K (.int .i64 es.len) R
   |none=>False
  |.dx=>K (.int .i64 0) R
  |.emp=>K (.int .i64 0) R
  |_=>False
 |_=>False
def MZ(T:iM)(t:TypeId)(parts:List (Nat×Operand))(ev:Operand->D)(R:Rows)(K:D->Rows->Prop):Prop:=
 match T.get t with
 |some ⟨.struct fs,_,_,_,some ds,_⟩=>cv (fs.all λf=>bJ 0 f.2.2)<|Gh (λi=>(fs[i]?).map λf=>(f.1,f.2.2)) ev parts ds λcs=>K (.agg cs) R
 |some ⟨.array _ _ iP,_,_,_,some ds,_⟩=>cv (bJ 0 iP)<|Gh (λi=>some (i*iP,iP)) ev parts ds λcs=>K (.agg cs) R
 |_=>False
def M0(T:iM)(t:TypeId)(len:Nat)(parts:List (Nat×Operand))(ev:Operand->D)(R:Rows)(K:D->Rows->Prop):Prop:=
 match T.get t with
 |some ⟨.slice e _,_,_,_,_,_⟩=>match T.get e with
  |some ⟨_,sz,_,_,some z,_⟩=>cv (bJ 0 sz&&bT z.length sz&&gQ (len*sz) 16777216&&z.all D.plain)<|
   HW sz len ev parts (List.replicate len z) λes=>match len with|0=>K .emp R|_+1=>K (.sl sz (ak.ofT e es) true) R
  |_=>False
 |_=>False
def HN:iJ->Option (Nat×Nat×Nat)|.ptr r i off=>some (r,i,off)|_=>none
def QR:List iJ->Option (List (Nat×Nat×Nat))
 |[]=>some []
 |x::l=>match HN x,QR l with|some p,some ps=>some (p::ps)|_,_=>none
def Dn:D->Option iJ
 |.ptr r i off=>some (.ptr r i off)
 |.int k n=>some (.int k n)
 |.all r=>some (.arr r)
 |.sl a b fr=>some (.sl a b fr)
 |.gq f cs=>match QR cs with|some ps=>some (.fn f ps)|none=>none
 |_=>none
def K0:List D->Option (List iJ)
 |[]=>some []
 |d::l=>match Dn d,K0 l with|some x,some xs=>some (x::xs)|_,_=>none
def ig(T:iM)(o:Op)(ev:Operand->D)(R:Rows)(K:D->Rows->Prop):Prop:=
 match o with
 |.move x|.assign x=>(ev x).force λd=>K d R
 |.alloc t=>match T.get t with
  |some ⟨_,sz,_,_,some ds,_⟩=>cv (bJ 0 sz&&bT ds.length sz) (Bl R ⟨true,t,sz,.gen [ds]⟩ λk R=>K (.ptr k 0 0) R)
  |_=>False
 |.box t x=>match T.get t with
  |some ⟨_,sz,_,_,_,_⟩=>cv (bJ 0 sz&&(ev x).isVal&&bT (ev x).cells.length sz) (D.j4 (ev x).cells λcs=>Bl R ⟨true,t,sz,.gen [cs]⟩ λk R=>K (.ptr k 0 0) R)
  |none=>False
 |.build t parts=>MZ T t parts.toList ev R K
 |.buildSlice t len parts=>M0 T t len parts.toList ev R K
 |.load t a=>Ah T t (ev a) R K
 |.store t a x=>Qp T t (ev a) (ev x) R K
 |.nilCheck x=>match ev x with
  |.ptr a b c=>K (.ptr a b c) R
  |.iv a b c d=>K (.iv a b c d) R
  |_=>False
 |.binOp op t x y _=>tl T op t (ev x) (ev y) λd=>K d R
 |.unOp op _ x=>match op,ev x with
  |.neg,.int k n=>K (.int k (k.wrap (0-n))) R
  |.xor,.int k n=>K (.int k (nu k (if k.signed then-1 else k.max) n)) R
  |.not,.bool b=>K (.bool (!b)) R
  |_,_=>False
 |.convert s d x=>MX T s d (ev x) λv=>K v R
 |.fieldAddr s x f=>match QZ T s f with
  |some (o,_,n)=>cv (bJ 0 n)<|match ev x with
   |.ptr r i off=>K (.ptr r i (off+o)) R
   |.iv sz es i off=>K (.iv sz es i (off+o)) R
   |_=>False
  |none=>False
 |.field s x f=>match QZ T s f with
  |some (o,t,n)=>match ev x,T.get t with
   |.agg cs,some ti=>cv (bJ 0 n&&gQ (o+n) cs.length)<|match ti.kind.isAgg with
    |true=>D.j4 ((cs.drop o).take n) λl=>K (.agg l) R
    |false=>cv (cs.getD o .dead).wu ((cs.getD o .dead).force λd=>K d R)
   |_,_=>False
  |none=>False
 |.indexAddr t x ix=>match ev ix with
  |.int _ n=>Vq T t (ev x) (match ix with|.const _=>true|_=>false) n R K
  |_=>False
 |.index t x ix=>match T.get t,ev x,ev ix with
  |some ⟨.string,_,_,_,_,_⟩,.str s,.int _ n=>cv (decide (0<=n/\n<s.length)) (K (.int .u8 ((s.getD n.toNat 0).toNat:Int)) R)
  |some ⟨.array len e iP,_,_,_,_,_⟩,.agg cs,.int _ n=>cv (bT iP 1&&(bT cs.length len&&decide (0<=n/\n<len)))<|match T.get e with
   |some ⟨.int k,_,_,_,_,_⟩=>cv (Dl k cs 0 len) (K (.int k ((ints cs 0 len).getD n.toNat 0)) R)
   |some ⟨.bool,_,_,_,_,_⟩=>cv (HM cs 0 len) (K (.bool ((bw cs 0 len).getD n.toNat false)) R)
   |_=>False
  |_,_,_=>False
 |.extract x i=>match ev x with
  |.dt ds=>cv (ds.getD i .dead).isVal ((ds.getD i .dead).force λd=>K d R)
  |_=>False
 |.slice t x lo hi none=>MY T t (ev x) lo hi ev R K
 |.makeSlice t l c=>match ev l,ev c with
  |.int _ n,.int _ m=>u9 T t n m R K
  |_,_=>False
 |.call {callee:=.builtin .len,args,argTypes}=>match args.toList,argTypes.toList with
  |[x],[t]=>tu T t (ev x) R K
  |_,_=>False
 |.makeFunc fn first captured=>match fn with
  |.func f=>cv (bT first.size 0&&bJ f YB)<|match K0 (captured.toList.map ev)with
   |some cs=>K (.gq f cs) R
   |none=>False
  |_=>False
 |_=>False
def pos(r:Nat):List Nat->Nat->Nat
 |[],k=>k
 |x::l,k=>match bT x r with|true=>k|false=>pos r l (k+1)
def cf(r:Nat):List Nat->Bool
 |[]=>false
 |x::l=>match bT x r with|true=>true|false=>cf r l
def pO:List Nat->List Nat->Bool
 |[],_=>true
 |x::l,m=>match cf x m with|true=>pO l m|false=>false
def nV:List Nat->List Nat->Bool
 |[],_=>true
 |x::l,m=>match cf x m with|true=>false|false=>nV l m
def lS:List Nat->List Nat->List Nat
 |ids,[]=>ids
 |ids,x::l=>match cf x ids with|true=>lS ids l|false=>lS (ids++[x]) l
def EN:List Nat->Bool
 |[]=>true
 |x::l=>match cf x l with|true=>false|false=>EN l
def Dj:iJ->List Nat|.ptr r _ _=>[r]|.arr r=>[r]|.fn _ ps=>ps.map (·.1)|_=>[]
def oJ:List iJ->List Nat
 |[]=>[]
 |x::l=>Dj x++oJ l
def iJ.jk(f:Nat->Nat)(cy:Bool):iJ->iJ
 |.ptr r i off=>.ptr (f r) i off
 |.int k n=>.int k n
 |.arr r=>.arr (f r)
 |.sl a b fr=>.sl a b (fr&&cy)
 |.fn g ps=>.fn g (ps.map λp=>(f p.1,p.2))
def nU:D->List Nat|.gq _ cs=>oJ cs|.c9 r=>[r]|.all r=>[r]|.own r _ _=>[r]|.ptr r _ _=>[r]|.pa r _ _ _ _ _=>[r]|_=>[]
def rk:List D->List Nat
 |[]=>[]
 |d::l=>nU d++rk l
def Ga:D->List Nat|.agg cs=>rk cs|d=>nU d
def D.ez(ks:List Nat):D->D
 |.all r=>match cf r ks with|true=>.dead|false=>.all r
 |.own r o n=>match cf r ks with|true=>.dead|false=>.own r o n
 |.ptr r i off=>match cf r ks with|true=>.dead|false=>.ptr r i off
 |.pa r i off l k n=>match cf r ks with|true=>.dead|false=>.pa r i off l k n
 |.c9 r=>match cf r ks with|true=>.dead|false=>.c9 r
 |.gq f cs=>match nV (oJ cs) ks with|true=>.gq f cs|false=>.dead
 |d=>d
def D.kI(ks:List Nat):List D->List D
 |[]=>[]
 |d::l=>d.ez ks::kI ks l
def D.kill(ks:List Nat):D->D
 |.agg cs=>.agg (D.kI ks cs)
 |d=>d.ez ks
def D.pX(ks:List Nat):List D->List D
 |[]=>[]
 |d::l=>d.kill ks::pX ks l
def D.gr(ks:List Nat):D->D
 |.dt ds=>.dt (D.pX ks ds)
 |d=>d.kill ks
def Row.kill(ks:List Nat):Row->Row
 |⟨true,ty,sz,.gen [e]⟩=>⟨true,ty,sz,.gen [D.kI ks e]⟩
 |r=>r
def su(ks:List Nat):Rows->Nat->Rows
 |[],_=>[]
 |x::l,i=>(match cf i ks with|true=>none|false=>match x with|some row=>some (row.kill ks)|none=>none)::su ks l (i+1)
def Zj(ks:List Nat):List (Nat×D)->(List (Nat×D)->Prop)->Prop
 |[],K=>K []
 |(t,d)::l,K=>(d.gr ks).force λd=>Zj ks l λl=>K ((t,d)::l)
def iW(s:List UInt8):List Int:=s.map λb=>(b.toNat:Int)
def bytesOf(l:List Int):List UInt8:=l.map λn=>UInt8.ofNat n.toNat
def sN(R:Rows):D->Option (Nat×ak)
 |.dx=>some (0,.gen [])
 |.emp=>some (0,.gen [])
 |.sl sz es _=>some (sz,es)
 |.all r=>match R.getD r none with|some ⟨false,_,sz,es⟩=>some (sz,es)|_=>none
 |.own r o n=>match R.getD r none with|some ⟨false,_,sz,es⟩=>some (sz,(es.drop o).take n)|_=>none
 |_=>none
def Db(R:Rows)(ke kx:TK)(y:D):Option (Nat×ak):=
 match kx with
 |.slice _ _=>sN R y
 |.string=>match ke,y with
  |.int .u8,.str s=>some (1,.ints .u8 (iW s))
  |_,_=>none
 |_=>none
def IX:ak->Bool|.gen []=>true|_=>false
def Dd(e sz lZ:Nat)(R:Rows)(ks:List Nat)(es ys:ak)(K:List Nat->D->Rows->Prop):Prop:=
 cv (decide (lZ*(es.len+ys.len)<=140737488355328))<|uc (su ks R 0++[some ⟨false,e,sz,es.app ys⟩]) λR'=>K ks (.all R.length) R'
def MK (T:iM)(M:Nat)(t tx:TypeId)(x y:D)(R:Rows)(K:List Nat->D->Rows->Prop):Prop:=
 match T.get t with
 |some ⟨.slice e iP,_,_,_,_,_⟩=>match T.get e,T.get tx with
  |some ⟨ke,sz,lZ,_,some z,_⟩,some ⟨kx,_,_,_,_,_⟩=>match Db R ke kx y with
   |some (sy,ys)=>cv ((bJ 0 sz&&bT iP sz)&&(bT z.length sz&&z.all D.plain)&&(bJ 0 lZ&&(bT sy sz||IX ys)))<|
    match x with
    |.dx=>Dd e sz lZ R [] (.gen []) ys K
    |.emp=>Dd e sz lZ R [] (.gen []) ys K
    |.all r=>match R.getD r none with
     |some ⟨false,ty,s,es⟩=>cv ((bT s sz&&bT ty e)&&gQ M r) (Dd e sz lZ R [r] es ys K)
     |_=>False
    |.own r o n=>match R.getD r none with
     |some ⟨false,ty,s,es⟩=>cv ((bT s sz&&bT ty e)&&(gQ M r&&bT o 0)) (Dd e sz lZ R [r] (es.take n) ys K)
     |_=>False
    |_=>False
   |none=>False
  |_,_=>False
 |_=>False
def uo(T:iM)(t tx:TypeId)(x y:D)(R:Rows)(K:D->Rows->Prop):Prop:=
 match T.get t with
 |some ⟨.slice e iP,_,_,_,_,_⟩=>match T.get e,T.get tx with
  |some ⟨ke,sz,_,_,_,_⟩,some ⟨kx,_,_,_,_,_⟩=>match Db R ke kx y with
   |some (sy,ys)=>cv ((bJ 0 sz&&bT iP sz)&&(bT sy sz||IX ys))<|
    match x with
    |.all r=>match R.getD r none with
     |some ⟨false,ty,s,es⟩=>cv (bT s sz)<|uc (R.set r (some ⟨false,ty,s,(ys.take (min ys.len es.len)).app (es.drop (min ys.len es.len))⟩)) λR'=>K (.int .i64 (min ys.len es.len:Nat)) R'
     |_=>False
    |.own r o n=>match R.getD r none with
     |some ⟨false,ty,s,es⟩=>cv (bT s sz)<|uc (R.set r (some ⟨false,ty,s,((es.take o).app (ys.take (min ys.len n))).app (es.drop (o+min ys.len n))⟩)) λR'=>K (.int .i64 (min ys.len n:Nat)) R'
     |_=>False
    |_=>False
   |none=>False
  |_,_=>False
 |_=>False
inductive Ans where
 |no
 |ok (res:D) (rows:List Row)
 |when (p:Prop) (res:D) (rows:List Row)
 |abs (α:Type) (v:α) (res:α->D) (rows:α->List Row)
 |lX (p:Prop) (α:Type) (v:α) (res:α->D) (rows:α->List Row)
structure bf where
 f:FuncId
 refs:List Bool
 flat:Bool
 m:List D->List Row->Ans
 gone:Option Nat
 pw:Bool
def oZ:List bf->FuncId->Option bf
 |[],_=>none
 |x::l,f=>match bT x.f f with|true=>some x|false=>oZ l f
def F9(R:Rows):D->Option D
 |.bool b=>some (.bool b)
 |.int k n=>some (.int k n)
 |.str s=>some (.str s)
 |.iO=>some .iO
 |.jP=>some .jP
 |.dx=>some (.sl 0 (.gen []) false)
 |.emp=>some (.sl 0 (.gen []) false)
 |.sl a b _=>some (.sl a b false)
 |.all r=>match R.getD r none with|some row=>(match row.box with|false=>some (.sl row.sz row.es false)|true=>none)|none=>none
 |.own r o n=>match R.getD r none with|some row=>(match row.box with|false=>some (.sl row.sz ((row.es.drop o).take n) false)|true=>none)|none=>none
 |_=>none
def J2(R:Rows):List D->Option (List D)
 |[]=>some []
 |d::ds=>match F9 R d,J2 R ds with|some x,some xs=>some (x::xs)|_,_=>none
def conv(R:Rows):D->Option D
 |.agg cs=>(J2 R cs).map .agg
 |d=>F9 R d
def D.mM(f:Nat->Nat)(cy:Bool):D->D
 |.all r=>.all (f r)
 |.own r o n=>.own (f r) o n
 |.ptr r i off=>.ptr (f r) i off
 |.pa r i off l k n=>.pa (f r) i off l k n
 |.sl a b fr=>.sl a b (fr&&cy)
 |.gq g cs=>.gq g (cs.map (iJ.jk f cy))
 |.c9 r=>.c9 (f r)
 |d=>d
def D.mN(f:Nat->Nat)(cy:Bool):List D->List D
 |[]=>[]
 |d::l=>d.mM f cy::mN f cy l
def D.jk(f:Nat->Nat)(cy:Bool):D->D
 |.agg cs=>.agg (D.mN f cy cs)
 |d=>d.mM f cy
def D.Bn(f:Nat->Nat)(cy:Bool):List D->List D
 |[]=>[]
 |d::l=>d.jk f cy::Bn f cy l
def D.tp(f:Nat->Nat)(cy:Bool):D->D
 |.dt ds=>.dt (D.Bn f cy ds)
 |d=>d.jk f cy
def Row.jk(f:Nat->Nat)(cy:Bool):Row->Row
 |⟨true,ty,sz,.gen [e]⟩=>⟨true,ty,sz,.gen [D.mN f cy e]⟩
 |r=>r
def Di(R:Rows):List Nat->List Nat
 |[]=>[]
 |r::l=>(match R.getD r none with|some ⟨true,_,_,.gen [e]⟩=>rk e|_=>[])++Di R l
def Dq:List Bool->List D->List Nat
 |true::bs,d::ds=>Ga d++Dq bs ds
 |false::bs,_::ds=>Dq bs ds
 |_,_=>[]
def lW:List Bool->List D->List Nat
 |true::bs,_::ds=>lW bs ds
 |false::bs,d::ds=>Ga d++lW bs ds
 |[],d::ds=>Ga d++lW [] ds
 |_,[]=>[]
def mL(R:Rows)(bs:List Bool)(args:List D):List Nat:=
 let a:=lS [] (Dq bs args)
 let b:=lS a (Di R a)
 lS b (Di R b)
def BH(R:Rows)(f:Nat->Nat):List Nat->Option (List Row)
 |[]=>some []
 |r::l=>match R.getD r none,BH R f l with
  |some row,some rs=>some (row.jk f false::rs)
  |_,_=>none
def th(R:Rows)(f:Nat->Nat):List Bool->List D->Option (List D)
 |true::bs,d::ds=>match d.isVal,th R f bs ds with|true,some xs=>some (d.jk f false::xs)|_,_=>none
 |false::bs,d::ds=>match conv R d,th R f bs ds with|some x,some xs=>some (x::xs)|_,_=>none
 |[],d::ds=>match conv R d,th R f [] ds with|some x,some xs=>some (x::xs)|_,_=>none
 |_,[]=>some []
def bk(ids:List Nat)(n0 i:Nat):Nat:=match ids[i]? with|some r=>r|none=>n0+(i-ids.length)
def ud(f:Nat->Nat):List Nat->List Row->Rows->Rows
 |r::ids,row::rows,R=>ud f ids rows (R.set r (some (row.jk f true)))
 |_,_,R=>R
def BM(f:Nat->Nat)(rows:List Row):Rows:=rows.map λrow=>some (row.jk f true)
inductive Ex where
 |normal|exit (id:Nat)|ret
def St.put(N:Nat)(st:St)(dst:Option Tmp)(d:D)(R:Rows)(K:St->Prop):Prop:=
 match dst with
 |none=>K ⟨st.env,R⟩
 |some t=>cv (bJ t N) (K ⟨(t,d)::st.env,R⟩)
def St.kN(st:St)(c:Operand)(b:Bool):St:=
 match c with
 |.tmp t=>⟨(t,.bool b)::st.env,st.rows⟩
 |_=>st
def EO(R:Rows)(ids:List Nat)(res:D)(aj:List Row)(K:D->Rows->Prop):Prop:=
 cv (gQ ids.length aj.length)<|(res.tp (bk ids R.length) true).force λres=>
  uc (ud (bk ids R.length) ids aj R++BM (bk ids R.length) (aj.drop ids.length)) λR=>K res R
def tq(G:List bf)(f:FuncId)(args:List D)(R:Rows)(K:D->Rows->Prop):Prop:=
 match oZ G f with
 |some x=>
  match th R (λr=>pos r (mL R x.refs args) 0) x.refs args,BH R (λr=>pos r (mL R x.refs args) 0) (mL R x.refs args)with
  |some az,some rows=>
   cv ((x.flat&&(match mL R x.refs args with|[]=>true|_=>false)||(match lW x.refs args with|[]=>true|_=>false))&&
    (pO (Dq x.refs args) (mL R x.refs args)&&pO (Di R (mL R x.refs args)) (mL R x.refs args))&&
    (EN (mL R x.refs args)&&nV (lW x.refs args) (mL R x.refs args)))<|
   match x.m az rows with
   |.ok res aj=>EO R (mL R x.refs args) res aj K
   |.when p res aj=>p/\EO R (mL R x.refs args) res aj K
   |.abs _ v res aj=>∀X,X=v->EO R (mL R x.refs args) (res X) (aj X) K
   |.lX p _ v res aj=>p/\∀X,X=v->EO R (mL R x.refs args) (res X) (aj X) K
   |.no=>False
  |_,_=>False
 |none=>False
def pq(G:List bf)(f:FuncId):Option Nat:=match oZ G f with|some x=>x.gone|none=>none
def F7(f:Nat->Nat):List Nat->List Row->Rows->Rows
 |r::ids,row::rows,R=>F7 f ids rows (R.set r (some (row.jk f false)))
 |_,_,R=>R
def QI(f:Nat->Nat)(rows:List Row):Rows:=rows.map λrow=>some (row.jk f false)
def HH(R:Rows)(Nd gid:List Nat)(res:D)(aj:List Row)(K:List Nat->D->Rows->Prop):Prop:=
 cv (gQ Nd.length aj.length)<|(res.tp (bk Nd R.length) false).force λres=>
  uc (F7 (bk Nd R.length) Nd aj (su gid R 0)++QI (bk Nd R.length) (aj.drop Nd.length)) λR=>K gid res R
def IC(G:List bf)(M:Nat)(f:FuncId)(k:Nat)(args:List D)(R:Rows)(K:List Nat->D->Rows->Prop):Prop:=
 match oZ G f with
 |some x=>
  match th R (λr=>pos r (mL R x.refs args) 0) x.refs args,BH R (λr=>pos r (mL R x.refs args) 0) (mL R x.refs args)with
  |some az,some rows=>
   cv (((match lW x.refs args with|[]=>true|_=>false)&&(match x.refs with|[]=>false|_=>true))&&
    (pO (Dq x.refs args) (mL R x.refs args)&&pO (Di R (mL R x.refs args)) (mL R x.refs args))&&
    (EN (mL R x.refs args)&&((mL R x.refs args).drop k).all λr=>gQ M r))<|
   match x.m az rows with
   |.abs _ v res aj=>∀X,X=v->HH R ((mL R x.refs args).take k) ((mL R x.refs args).drop k) (res X) (aj X) K
   |.lX p _ v res aj=>p/\∀X,X=v->HH R ((mL R x.refs args).take k) ((mL R x.refs args).drop k) (res X) (aj X) K
   |_=>False
  |_,_=>False
 |none=>False
def Ci(G:List bf)(f:FuncId):Bool:=match oZ G f with|some x=>x.pw|none=>false
def Dh(G:List bf)(M:Nat)(f:FuncId)(args:List D)(R:Rows)(K:List Nat->D->Rows->Prop):Prop:=
 match oZ G f with
 |some x=>
  match th R (λr=>r) [] args,BH R (λr=>pos r (lS [] (lW [] args)) 0) (lS [] (lW [] args))with
  |some az,some rows=>
   cv (((match x.refs with|[]=>true|_=>false)&&rows.all λr=>!r.box)&&(EN (lS [] (lW [] args))&&(pO (lW [] args) (lS [] (lW [] args))&&(lS [] (lW [] args)).all λr=>gQ M r)))<|
   match x.m az []with
   |.abs _ v res aj=>∀X,X=v->HH R [] (lS [] (lW [] args)) (res X) (aj X) K
   |.lX p _ v res aj=>p/\∀X,X=v->HH R [] (lS [] (lW [] args)) (res X) (aj X) K
   |_=>False
  |_,_=>False
 |none=>False
def QY:D->Bool|.gq _ _=>false|.c9 _=>false|.all _=>false|.own _ _ _=>false|.ptr _ _ _=>false|.pa _ _ _ _ _ _=>false|_=>true
def Vm:List D->Bool
 |[]=>true
 |d::l=>match QY d with|true=>Vm l|false=>false
def tt:D->Bool|.agg cs=>Vm cs|d=>QY d
def Vn:List D->Bool
 |[]=>true
 |d::l=>match tt d with|true=>Vn l|false=>false
def u7:D->Bool|.dt ds=>Vn ds|d=>tt d
def MW(R:Rows)(res:D)(aj:List Row)(K:D->Rows->Prop):Prop:=
 match aj with
 |[]=>cv (u7 res) (res.force λres=>K res R)
 |_=>(res.tp (bk [] R.length) true).force λres=>uc (R++BM (bk [] R.length) aj) λR=>K res R
def Dt:List Nat->Bool|[]=>true|_=>false
def KX(G:List bf)(f:FuncId)(args:List D)(R:Rows)(K:D->Rows->Prop):Prop:=
 match oZ G f with
 |some x=>match x.refs with
  |[]=>match th R (λr=>r) [] args with
   |some az=>cv (x.flat||Dt (lW [] args))<|match x.m az []with
    |.ok res aj=>MW R res aj K
    |.when p res aj=>p/\MW R res aj K
    |.abs _ v res aj=>∀X,X=v->MW R (res X) (aj X) K
    |.lX p _ v res aj=>p/\∀X,X=v->MW R (res X) (aj X) K
    |.no=>False
   |none=>False
  |_=>tq G f args R K
 |none=>False
def wI(T:iM)(e d:TypeId)(x:D)(R:Rows)(K:D->Prop):Prop:=
 match T.get e,T.get d with
 |some ⟨.int .u8,_,_,_,_,_⟩,some ⟨.string,_,_,_,_,_⟩=>match sN R x with
  |some (s,es)=>match es.toI .u8 with
   |some l=>cv (bT s 1||IX es) (K (.str (bytesOf l)))
   |none=>False
  |none=>False
 |_,_=>False
def ak.Nil:ak->Prop
 |.gen es=>es=[]
 |.ints _ l=>l=[]
 |.bw l=>l=[]
 |.ax _ l=>l=[]
def Ca(T:iM)(t:TypeId)(es:ak)(K:D->Prop):Prop:=
 match T.get t with
 |some ⟨.slice _ _,_,_,_,_,_⟩=>K (.rz es)
 |_=>False
def wH(mx:Bool)(x y:D)(K:D->Prop):Prop:=
 match x,y with
 |.int k a,.int k' b=>cv (decide (k=k')) (K (.int k (match mx with|true=>(if b>a then b else a)|false=>(if b<a then b else a))))
 |_,_=>False
def mc(T:iM)(G:List bf)(N M:Nat)(o:Oper)(st:St)(K:St->Prop):Prop:=
  match o.op with
  | .pick c a b=>match cb st.env c with
    | .bool t=>Ec t ((cb st.env a).force λd=>st.put N o.dst d st.rows K) ((cb st.env b).force λd=>st.put N o.dst d st.rows K)
    |_=>False
  | .call {callee:= .value (.func f),args, .. }=>match pq G f with
    | none=>match Ci G f with
      |false=>KX G f (args.toList.map (cb st.env)) st.rows λd R=>st.put N o.dst d R K
      |true=>Dh G M f (args.toList.map (cb st.env)) st.rows λks d R=>Zj ks st.env λenv=>St.put N ⟨env,R⟩ o.dst d R K
    |some k=>cv (bJ f YB)<|IC G M f k (args.toList.map (cb st.env)) st.rows λks d R=>Zj ks st.env λenv=>St.put N ⟨env,R⟩ o.dst d R K
  | .call {callee:= .value (.tmp t),args, .. }=>match look st.env t with
    | .gq f cs=>match pq G f with
      | none=>match Ci G f with
        |false=>KX G f (args.toList.map (cb st.env)++cs.map iJ.d) st.rows λd R=>st.put N o.dst d R K
        |true=>False
      |some k=>cv (bJ f YB||bT args.size 1)<|IC G M f k (args.toList.map (cb st.env)++cs.map iJ.d) st.rows λks d R=>Zj ks st.env λenv=>St.put N ⟨env,R⟩ o.dst d R K
    |_=>False
  | .call {callee:= .builtin .append,args,argTypes}=>match args.toList,argTypes.toList with
    |[x,y],[t,tx]=>MK T M t tx (cb st.env x) (cb st.env y) st.rows λks d R=>Zj ks st.env λenv=>St.put N ⟨env,R⟩ o.dst d R K
    |_,_=>False
  | .call {callee:= .builtin .copy,args,argTypes}=>match args.toList,argTypes.toList with
    |[x,y],[t,tx]=>uo T t tx (cb st.env x) (cb st.env y) st.rows λd R=>st.put N o.dst d R K
    |_,_=>False
  | .call {callee:= .builtin .min,args, .. }=>match args.toList with
    |[x,y]=>wH false (cb st.env x) (cb st.env y) λd=>st.put N o.dst d st.rows K
    |_=>False
  | .call {callee:= .builtin .max,args, .. }=>match args.toList with
    |[x,y]=>wH true (cb st.env x) (cb st.env y) λd=>st.put N o.dst d st.rows K
    |_=>False
  | .convert s d x=>match T.get s with
    |some ⟨.slice e _,_,_,_,_,_⟩=>wI T e d (cb st.env x) st.rows λd=>st.put N o.dst d st.rows K
    |_=>ig T (.convert s d x) (cb st.env) st.rows λd R=>st.put N o.dst d R K
  | .binOp op t x y ty=>match op,cb st.env x,cb st.env y with
    | .eql, .sl _ es _, .dx=>Ca T t es λd=>st.put N o.dst d st.rows K
    |_,_,_=>ig T (.binOp op t x y ty) (cb st.env) st.rows λd R=>st.put N o.dst d R K
  |op=>ig T op (cb st.env) st.rows λd R=>st.put N o.dst d R K
def mn(T:iM)(G:List bf)(N M:Nat)(ops:Array Oper):List Oper->St->(St->Prop)->Prop
  |[],st,K=>K st
  | o :: l, st,K=>match o.guard with
    |none=>mc T G N M o st λst=>mn T G N M ops l st K
    | some (j,want)=>match(ops[j]?).bind (·.dst) with
      | some g=>match look st.env g with
        | .bool b=>Ec b
            (match want with|true=>mc T G N M o (st.kN (.tmp g) true) λst=>mn T G N M ops l st K|false=>(st.kN (.tmp g) true).put N o.dst (.dt []) st.rows λst=>mn T G N M ops l st K)
            (match want with|false=>mc T G N M o (st.kN (.tmp g) false) λst=>mn T G N M ops l st K|true=>(st.kN (.tmp g) false).put N o.dst (.dt []) st.rows λst=>mn T G N M ops l st K)
        | .dt []=>st.put N o.dst (.dt []) st.rows λst=>mn T G N M ops l st K
        |_=>False
      |none=>False
def sF(G:List bf):Op->Bool
 |.store _ _ _=>true
 |.call {callee:=.value (.func f),.. }=>match oZ G f with|some x=>(match x.refs with|[]=>x.pw|_=>true)|none=>true
 |.call {callee:=.value (.tmp _),.. }=>true
 |.call {callee:=.builtin .append,.. }=>true
 |.call {callee:=.builtin .copy,.. }=>true
 |_=>false
def lI(G:List bf)(o:Op):Bool:=!sF G o
def BU(G:List bf)(ops:Array Oper)(b:Array Nat)(i j:Nat):Bool:=
 match ops[i]?,ops[j]? with
 |some x,some y=>
  (x.apart ops y||(b.getD j 0).testBit i)&&((lI G x.op&&lI G y.op)||(b.getD j 0).testBit i)
 |_,_=>true
def Is(G:List bf)(ops:Array Oper):Bool:=
 let b:=Region.before ops
 (dD ops.size).all λj=>(match ops[j]? with|some o=>o.after.all λe=>!Region.binds .any e||bJ e.on j|none=>true)&&(dD j).all λi=>BU G ops b i j
def lF(ops:Array Oper)(i a:Nat):Bool:=(ops.toList.drop i).all λo=>match o.dst with|some d=>!(bT d a)|none=>true
def na:List Operand->List Nat
 |[]=>[]
 |.tmp a::l=>a::na l
 |_::l=>na l
def pR:Op->Option (List Nat)
 |.assign x=>some (na [x])
 |.move x=>some (na [x])
 |.extract x _=>some (na [x])
 |.nilCheck x=>some (na [x])
 |.fieldAddr _ x _=>some (na [x])
 |.buildSlice _ _ parts=>some (na (parts.toList.map (·.2)))
 |_=>none
def mh(env:List (Nat×D))(op:Op):Option (List Nat):=
 match pR op with
 |some q=>some q
 |none=>match op with
  |.build _ parts=>some (na (parts.toList.map (·.2)))
  |.binOp _ _ x y _=>match cb env x with|.int _ _=>some (na [x,y])|.str _=>some (na [x,y])|.bool _=>some (na [x,y])|_=>none
  |.unOp _ _ x=>some (na [x])
  |.convert _ _ x=>match cb env x with|.int _ _=>some (na [x])|.str _=>some (na [x])|_=>none
  |.field _ x _=>some (na [x])
  |.index _ x y=>some (na [x,y])
  |.slice _ x (some y) (some z) none=>match cb env x with|.str _=>some (na [x,y,z])|_=>none
  |.slice _ x (some y) none none=>match cb env x with|.str _=>some (na [x,y])|_=>none
  |.slice _ x none (some z) none=>match cb env x with|.str _=>some (na [x,z])|_=>none
  |.indexAddr _ x y=>match cb env x with|.sl _ _ _=>some (na [x,y])|_=>none
  |.load _ x=>match cb env x with|.iv _ _ _ _=>some (na [x])|_=>none
  |.call {callee:=.builtin .len,args,.. }=>match args.toList with|[x]=>(match cb env x with|.str _=>some (na [x])|.sl _ _ _=>some (na [x])|_=>none)|_=>none
  |_=>none
def H7:D->Bool|.ptr _ _ _=>true|_=>false
def Ko:D->Bool|.emp=>true|.dx=>true|_=>false
def DG(ops:Array Oper)(env:List (Nat×D))(i j:Nat)(op:Op)(l:List Operand):Bool:=
 match op,l with
 |.load _ (.tmp a),.tmp x::_=>lF ops i a&&(lF ops j x&&(H7 (look env a)&&Ko (look env x)))
 |_,_=>false
def pQ:D->Bool|.int _ _=>true|.str _=>true|.bool _=>true|.sl _ _ _=>true|.all _=>true|_=>false
def DH(ops:Array Oper)(env:List (Nat×D))(i:Nat)(op:Op)(dst:Option Nat):Bool:=
 match op,dst with
 |.load _ (.tmp a),some t=>lF ops i a&&(H7 (look env a)&&(lF ops (i+1) t&&pQ (look env t)))
 |_,_=>false
def M5(G:List bf)(ops:Array Oper)(env:List (Nat×D))(i j:Nat):Bool:=
 match ops[i]?,ops[j]? with
 |some x,some y=>(match x.guard,y.guard,x.op,y.op with
  |none,none,.load _ (.tmp a),.store _ (.tmp b) _=>lF ops i a&&(lF ops j b&&(match look env a,look env b with|.ptr r _ _,.ptr r' _ _=>!(bT r r')|.iv _ _ _ _,.ptr _ _ _=>true|_,_=>false))
  |none,none,op,.store _ (.tmp b) _=>(match mh env op with|some q=>(q.all λa=>lF ops i a)&&(lF ops j b&&(match look env b with|.ptr _ _ _=>true|_=>false))|none=>false)
  |none,none,op,.call {callee:=.value (.func f),.. }=>(match(match pq G f with|some _=>true|none=>Ci G f)with|true=>false|false=>match mh env op with|some q=>q.all λa=>lF ops i a|none=>false)
  |none,none,op,.call {callee:=.builtin .append,args,.. }=>(match pR op with|some q=>(q.all λa=>lF ops i a&&H7 (look env a))&&(match x.dst with|some t=>lF ops (i+1) t&&H7 (look env t)|none=>true)|none=>DG ops env i j op args.toList||DH ops env i op x.dst)
  |_,_,_,_=>false)
 |_,_=>false
def wh(ops:Array Oper)(j:Nat):Bool:=
 match ops[j]? with
 |some y=>match y.guard,y.op with
  |none,.alloc _=>(match y.dst with|none=>true|some u=>(dD ops.size).all λk=>bT k j||(match(ops[k]?).bind (·.dst)with|some d=>!(bT d u)|none=>true))
  |_,_=>false
 |none=>false
def Am(G:List bf)(ops:Array Oper)(env:List (Nat×D))(b:Array Nat)(i j:Nat):Bool:=
 match ops[i]?,ops[j]? with
 |some x,some y=>
  (x.apart ops y||(b.getD j 0).testBit i)&&((lI G x.op&&lI G y.op)||(b.getD j 0).testBit i||(M5 G ops env i j||wh ops j))
 |_,_=>true
def RB(G:List bf)(ops:Array Oper)(env:List (Nat×D)):Bool:=
 let b:=Region.before ops
 (dD ops.size).all λj=>(match ops[j]? with|some o=>o.after.all λe=>!Region.binds .any e||bJ e.on j|none=>true)&&(dD j).all λi=>Am G ops env b i j
def Ie(x:Nat):List Nat->Nat->List Nat
 |l,0=>x::l
 |[],_=>[x]
 |y::l,n+1=>y::Ie x l n
def DQ(m:Nat):List Nat->Nat->Nat->Nat
 |[],_,r=>r
 |y::l,k,r=>DQ m l (k+1) (match m.testBit y with|true=>k+1|false=>r)
def DR:List Oper->Bool
 |[]=>false
 |o::l=>match o.op with|.buildSlice _ 0 _=>true|_=>DR l
def Gu(e:Bool)(op:Op):Bool:=match pR op with|some _=>true|none=>(match op with|.load _ _=>e|_=>false)
def DS(e:Bool)(ops:Array Oper)(b:Array Nat):List Nat->List Nat->List Nat
 |[],acc=>acc
 |j ::js,acc=>DS e ops b js (match ops[j]? with
  |some o=>(match o.guard with
   |none=>(match Gu e o.op with|true=>Ie j acc (DQ (b.getD j 0) acc 0 0)|false=>acc++[j])
   |some _=>acc++[j])
  |none=>acc)
def Sj(ops:Array Oper)(b:Array Nat):Bool:=
 (dD ops.size).any λj=>(match ops[j]? with|some y=>(match y.op with|.load _ _=>true|_=>false)|none=>false)&&(dD j).any λi=>(match ops[i]? with|some x=>(match x.op with|.call {callee:=.builtin .append,.. }=>true|_=>false)|none=>false)&&!((b.getD j 0).testBit i)
def VW(ops:Array Oper):List Nat:=DS (DR ops.toList||Sj ops (Region.before ops)) ops (Region.before ops) (dD ops.size) []
def VG(p:List Nat)(n:Nat):Bool:=bT p.length n&&(((dD n).all λi=>cf i p)&&((p.all λi=>bJ i n)&&EN p))
def DK(p:List Nat)(e:Edge):Edge:=⟨pos e.on p 0,e.ground⟩
def M7(p:List Nat)(o:Oper):Oper:=⟨o.dst,o.op,o.type,o.pos,o.after.map (DK p),match o.guard with|none=>none|some (j,w)=>some (pos j p 0,w)⟩
def nC(p:List Nat)(ops:Array Oper):Array Oper:=(p.map λi=>M7 p (ops.getD i default)).toArray
def wc(T:iM)(G:List bf)(N M:Nat)(ops:Array Oper)(st:St)(Q:Ex->St->Prop):Prop:=
 match Is G ops with
 |true=>mn T G N M ops ops.toList st λst=>Q .normal st
 |false=>cv (VG (VW ops) ops.size)<|mn T G N M (nC (VW ops) ops) (nC (VW ops) ops).toList st λst=>cv (RB G (nC (VW ops) ops) st.env) (Q .normal st)
def HY(i n:Nat):List D->Option (List D)
 |[]=>none
 |d::l=>match d,l with
  |.iO,.dx::m=>some (.c9 i:: .all n::m)
  |d,l=>match HY i n l with|some l'=>some (d::l')|none=>none
def Sk(T:iM)(t:TypeId):Bool:=match T.get t with|some ⟨_,_,_,_,some ds,_⟩=>(match HY 0 0 ds with|some _=>true|none=>false)|_=>false
def wv(T:iM):List Oper->Bool
 |[]=>false
 |o::l=>match o.op with|.alloc t=>(match Sk T t with|true=>true|false=>wv T l)|_=>wv T l
def Sl:iM->Option TypeId
 |[]=>none
 |(u,i)::l=>match i.kind with|.int .u8=>some u|_=>Sl l
def Jap(T:iM):Code->Option TypeId
 |.region _ ops _=>(match wv T ops.toList with|true=>Sl T|false=>none)
 |_=>none
def J9(n:Nat):Rows->Nat->Option (Nat×TypeId×Nat×List D)
 |[],_=>none
 |x::l,i=>match x with
  |some ⟨true,ty,sz,.gen [e]⟩=>(match HY i n e with|some e'=>some (i,ty,sz,e')|none=>J9 n l (i+1))
  |_=>J9 n l (i+1)
def Ka(T:iM)(a:Code)(st:St)(K:St->Prop):Prop:=
 match Jap T a with
 |none=>K st
 |some u=>match J9 st.rows.length st.rows 0 with
  |none=>K st
  |some (i,ty,sz,e)=>D.j4 e λe=>uc (st.rows.set i (some ⟨true,ty,sz,.gen [e]⟩)++[some ⟨false,u,1,.ints .u8 []⟩]) λR=>K ⟨st.env,R⟩
def D.Cl(R:Rows)(ks:List Nat):D->D
 |.all r=>match cf r ks with
  |true=>(match R.getD r none with|some ⟨false,_,sz,es⟩=>.sl sz es false|_=>.dead)
  |false=>.all r
 |.ptr r i off=>match cf r ks with
  |true=>(match R.getD r none with|some ⟨true,_,sz,.gen [e]⟩=>(match e.all D.plain with|true=>.iv sz (.gen [e]) i off|false=>.dead)|_=>.dead)
  |false=>.ptr r i off
 |d=>d.ez ks
def D.sO(R:Rows)(ks:List Nat):List D->List D
 |[]=>[]
 |d::l=>d.Cl R ks::sO R ks l
def D.IG(R:Rows)(ks:List Nat):D->D
 |.agg cs=>.agg (D.sO R ks cs)
 |d=>d.Cl R ks
def D.IH(R:Rows)(ks:List Nat):List D->List D
 |[]=>[]
 |d::l=>d.IG R ks::IH R ks l
def D.Cm(R:Rows)(ks:List Nat):D->D
 |.dt ds=>.dt (D.IH R ks ds)
 |d=>d.IG R ks
def Row.mC(R:Rows)(ks:List Nat):Row->Row
 |⟨true,ty,sz,.gen [e]⟩=>⟨true,ty,sz,.gen [D.sO R ks e]⟩
 |r=>r
def Zc(R0:Rows)(ks:List Nat):Rows->Nat->Rows
 |[],_=>[]
 |x::l,i=>(match cf i ks with|true=>none|false=>match x with|some row=>some (row.mC R0 ks)|none=>none)::Zc R0 ks l (i+1)
def Fm(R:Rows)(ks:List Nat):List (Nat×D)->(List (Nat×D)->Prop)->Prop
 |[],K=>K []
 |(t,d)::l,K=>(d.Cm R ks).force λd=>Fm R ks l λl=>K ((t,d)::l)
def DT:List D->List Nat
 |[]=>[]
 |d::l=>(match d with|.all r=>[r]|_=>[])++DT l
def Sm:D->List Nat|.agg cs=>DT cs|.all r=>[r]|_=>[]
def Gv(R:Rows)(n:Nat)(d:D):List Nat:=
 match d with
 |.ptr r _ off=>match R.getD r none with|some ⟨true,_,_,.gen [e]⟩=>DT ((e.drop off).take n)|_=>[]
 |_=>[]
def Ig:List (Nat×List Nat)->Nat->Option (List Nat)
 |[],_=>none
 |(u,x)::l,t=>match bT u t with|true=>some x|false=>Ig l t
def Nf(env:List (Nat×D)):List (Nat×D)->Nat->D
 |[],t=>look env t
 |(u,x)::l,t=>match bT u t with|true=>x|false=>Nf env l t
def wx(env:List (Nat×D))(acc:List (Nat×List Nat)):Operand->List Nat
 |.tmp t=>match Ig acc t with|some l=>l|none=>Sm (look env t)
 |_=>[]
def Ap(env:List (Nat×D))(acc:List (Nat×List Nat)):List Operand->List Nat
 |[]=>[]
 |x::l=>wx env acc x++Ap env acc l
def KD(T:iM)(env:List (Nat×D))(R:Rows)(acc:List (Nat×List Nat))(pa:List (Nat×D))(o:Oper):List (Nat×List Nat):=
 match o.dst with
 |none=>acc
 |some t=>match o.op with
  |.load ty (.tmp p)=>(t,Gv R (match T.get ty with|some i=>i.size|none=>0) (Nf env pa p))::acc
  |.move x=>(t,wx env acc x)::acc
  |.slice _ x _ _ _=>(t,wx env acc x)::acc
  |_=>acc
def KE(T:iM)(env:List (Nat×D))(pa:List (Nat×D))(o:Oper):List (Nat×D):=
 match o.dst with
 |none=>pa
 |some t=>match o.op with
  |.fieldAddr s (.tmp p) f=>(match QZ T s f with|some (k,_,_)=>(match Nf env pa p with|.ptr r i off=>(t,.ptr r i (off+k))::pa|_=>pa)|none=>pa)
  |.move (.tmp p)=>(t,Nf env pa p)::pa
  |.nilCheck (.tmp p)=>(t,Nf env pa p)::pa
  |_=>pa
def KF(G:List bf)(f:FuncId):Bool:=match oZ G f with|some x=>x.pw||(match x.refs with|[]=>!x.flat|_=>false)|none=>false
def Sn(T:iM)(env:List (Nat×D))(pa:List (Nat×D))(t:TypeId)(p:Nat):List Nat:=
 match T.get t with
 |some ⟨.array _ _ _,_,_,_,_,_⟩=>(match Nf env pa p with|.ptr r _ _=>[r]|_=>[])
 |_=>[]
def Tb(T:iM)(G:List bf)(env:List (Nat×D))(R:Rows):List (Nat×List Nat)->List (Nat×D)->List Oper->List Nat
 |_,_,[]=>[]
 |acc,pa,o::l=>(match o.op with|.call {callee:=.value (.func f),args,.. }=>(match KF G f with|true=>Ap env acc args.toList|false=>[])|.slice t (.tmp p) _ _ _=>Sn T env pa t p|_=>[])++Tb T G env R (KD T env R acc pa o) (KE T env pa o) l
def uG(M:Nat)(R:Rows):List Nat->List Nat
 |[]=>[]
 |r::l=>match gQ M r&&(match R.getD r none with|some ⟨false,_,_,_⟩=>true|some ⟨true,_,_,.gen [e]⟩=>e.all D.plain|_=>false)with|true=>r::uG M R l|false=>uG M R l
def II(T:iM)(G:List bf)(M:Nat)(ops:Array Oper)(st:St)(K:St->Prop):Prop:=
 match uG M st.rows (Tb T G st.env st.rows [] [] ops.toList)with
 |[]=>K st
 |ks=>Fm st.rows ks st.env λenv=>uc (Zc st.rows ks st.rows 0) λR=>K ⟨env,R⟩
def uH(T:iM)(R:Rows)(i:Nat):Option (TypeId×Nat×TypeId×Nat):=
 match R.getD i none with
 |some ⟨true,ty,sz,.gen [[d]]⟩=>(match d with
  |.dx=>(match T.get ty with|some ⟨.slice e n,_,_,_,_,_⟩=>(match bJ 0 n with|true=>some (ty,sz,e,n)|false=>none)|_=>none)
  |.emp=>(match T.get ty with|some ⟨.slice e n,_,_,_,_,_⟩=>(match bJ 0 n with|true=>some (ty,sz,e,n)|false=>none)|_=>none)
  |_=>none)
 |_=>none
def IJ(T:iM):List iJ->List (Nat×D)->Rows->(Rows->Prop)->Prop
 |[],_,R,K=>K R
 |.ptr i _ _::l,env,R,K=>(match uH T R i with
  |some (ty,sz,e,n)=>Bl R ⟨false,e,n,.gen []⟩ λk R=>uc (R.set i (some ⟨true,ty,sz,.gen [[.all k]]⟩)) λR=>IJ T l env R K
  |none=>IJ T l env R K)
 |_::l,env,R,K=>IJ T l env R K
def VX(env:List (Nat×D)):List Operand->List iJ
 |[]=>[]
 |.tmp t::l=>(match look env t with|.ptr i o f=>.ptr i o f::VX env l|_=>VX env l)
 |_::l=>VX env l
def Aq(env:List (Nat×D)):List Oper->List iJ
 |[]=>[]
 |o::l=>(match o.op with|.makeFunc _ _ captured=>VX env captured.toList|_=>[])++Aq env l
def px(T:iM)(G:List bf)(N M:Nat)(L:Code->St->(Ex->St->Prop)->Prop):Code->St->(Ex->St->Prop)->Prop
 |.skip,st,Q=>Q .normal st
 |.label _,st,Q=>Q .normal st
 |.region _ ops draw,st,Q=>IJ T (Aq st.env ops.toList) st.env st.rows λR=>II T G M ops ⟨st.env,R⟩ λst=>match draw with|true=>wc T G N M ops st Q|false=>mn T G N M ops ops.toList st λst=>Q .normal st
 |.seq a b,st,Q=>px T G N M L a st λe st=>match e with|.normal=>Ka T a st λst=>px T G N M L b st Q|.exit i=>Q (.exit i) st|.ret=>Q .ret st
 |.cond c a b,st,Q=>match cb st.env c with
  |.bool t=>Ec t (px T G N M L a (st.kN c true) Q) (px T G N M L b (st.kN c false) Q)
  |.rz es=>(es.Nil->px T G N M L a (st.kN c true) Q)/\px T G N M L b (st.kN c false) Q
  |_=>False
 |.block id c,st,Q=>px T G N M L c st λe st=>match e with|.normal=>Q .normal st|.exit i=>(match bT i id with|true=>Q .normal st|false=>Q (.exit i) st)|.ret=>Q .ret st
 |.exit id,st,Q=>Q (.exit id) st
 |.ret,st,Q=>Q .ret st
 |.scope c,st,Q=>px T G N M L c st Q
 |c,st,Q=>L c st Q
def Gl(T:iM)(R:Rows)(env:List (Nat×D)):List ResultVar->(List D->Prop)->Prop
 |[],K=>K []
 |.tmp t::l,K=>(look env t).force λd=>cv d.isVal (Gl T R env l λds=>K (d::ds))
 |.cell a t::l,K=>Ah T t (look env a) R λd _=>cv d.isVal (Gl T R env l λds=>K (d::ds))
def kO(ex:List Nat)(i r:Nat):Bool:=match ex[i]? with|some x=>bT x r|none=>false
def K4(ex:List Nat)(r:Nat):Bool:=ex.all λx=>!(bT x r)
def I0(ex:List Nat)(R:Rows)(i:Nat):Bool:=match ex[i]? with|some r=>(match R.getD r none with|none=>true|some _=>false)|none=>false
def ak.Eq:ak->ak->Prop
 |.ints k l,.ints k' m=>match decide (k=k')with|true=>l=m|false=>(ak.ints k l).l=(ak.ints k' m).l
 |.bw l,.bw m=>l=m
 |.gen es,.gen fs=>es=fs
 |.gen [],.ints _ m=>m=[]
 |.gen [],.bw m=>m=[]
 |.gen [],.ax _ m=>m=[]
 |.ax k l,.ax k' m=>(match Gz k k' l with|some l'=>l'=m|none=>(ak.ax k l).l=(ak.ax k' m).l)
 |E,F=>E.l=F.l
theorem ak.AI{E F:ak}(h:ak.Eq E F):E.l=F.l:=by
 cases E with
 |gen es=>
  cases es with
  |nil=>cases F<;>simp_all [ak.Eq,ak.l]
  |cons e es=>cases F<;>simp_all [ak.Eq,ak.l]
 |ints k l=>
  cases F with
  |ints k' m=>
   simp only[ak.Eq]at h
   split at h
   ·rename_i hk;subst h;rw[oY hk]
   ·exact h
  |_=>exact h
 |bw l=>
  cases F with
  |bw m=>simp only[ak.Eq]at h;rw[h]
  |_=>exact h
 |ax k l=>
  cases F with
  |ax k' m=>
   simp only[ak.Eq]at h
   split at h
   ·rename_i l' hc
    obtain⟨e,hm⟩:=WR hc
    subst e
    simp only at hm
    rw[<-h,<-hm]
   ·exact h
  |_=>exact h
theorem ak.oD{E:ak}:E.Nil↔E.l=[]:=by
 cases E<;>simp[ak.Nil,ak.l]
def sR(ex:List Nat):List (Nat×Nat×Nat)->List (Nat×Nat×Nat)->Bool
 |[],[]=>true
 |(i,b,c)::l,(r,y,z)::m=>kO ex i r&&(bT b y&&(bT c z&&sR ex l m))
 |_,_=>false
def py(ex:List Nat):List iJ->List iJ->Bool
 |[],[]=>true
 |.ptr i b c::l,.ptr r y z::m=>kO ex i r&&(bT b y&&(bT c z&&py ex l m))
 |.fn f ps::l,.fn g qs::m=>bT f g&&(sR ex ps qs&&py ex l m)
 |_,_=>false
def jy(ex:List Nat)(m:Nat)(R:Rows)(d p:D):Prop:=
 match p with
 |.int k n=>match d with|.int j q=>cv (decide (j=k)) (q=n)|_=>False
 |.bool b=>match d with|.bool a=>a=b|_=>False
 |.str s=>match d with|.str u=>u=s|_=>False
 |.iO=>match d with|.iO=>True|_=>False
 |.jP=>match d with|.jP=>True|_=>False
 |.gq f cs=>match d with|.gq g ds=>cv (bT f g&&py ex cs ds) True|_=>False
 |.ptr i o f=>match d with|.ptr r o' f'=>cv (kO ex i r&&(bT o o'&&bT f f')) True|_=>False
 |.c9 i=>match d with|.iO=>True|.c9 r=>cv (kO ex i r) True|.ptr r o f=>cv (kO ex i r&&(bT o 0&&bT f 0)) True|_=>False
 |.dx=>match d with|.dx=>True|_=>False
 |.emp=>match d with|.dx=>True|.emp=>True|_=>False
 |.sl sz es fr=>match d with
  |.dx=>es.Nil
  |.emp=>es.Nil
  |.sl kJ jh fr'=>cv (!fr||fr') ((jh.Nil\/kJ=sz)/\ak.Eq jh es)
  |.all r=>match R.getD r none with
   |some ⟨box,_,kJ,jh⟩=>cv (!box&&bT kJ sz&&K4 ex r&&gQ m r) (ak.Eq jh es)
   |none=>False
  |.own r o n=>match R.getD r none with
   |some ⟨box,_,kJ,jh⟩=>cv (!box&&bT kJ sz&&K4 ex r&&gQ m r) (ak.Eq ((jh.drop o).take n) es)
   |none=>False
  |_=>False
 |.all i=>match d with|.all r=>cv (kO ex i r) True|.dx=>cv (I0 ex R i) True|.emp=>cv (I0 ex R i) True|_=>False
 |.own i o n=>match d with|.own r o' n'=>cv (kO ex i r) (o'=o/\n'=n)|_=>False
 |.dead=>cv d.H0 True
 |_=>False
def Fv(ex:List Nat)(m:Nat)(R:Rows):List D->List D->Prop
 |[],[]=>True
 |d::ds,p::ps=>jy ex m R d p/\Fv ex m R ds ps
 |_,_=>False
def rD(ex:List Nat)(m:Nat)(R:Rows)(d p:D):Prop:=
 match p with
 |.agg ps=>match d with|.agg ds=>Fv ex m R ds ps|_=>False
 |p=>jy ex m R d p
def wQ(ex:List Nat)(m:Nat)(R:Rows):List D->List D->Prop
 |[],[]=>True
 |d::ds,p::ps=>rD ex m R d p/\wQ ex m R ds ps
 |_,_=>False
def AG(ex:List Nat)(m:Nat)(R:Rows)(d p:D):Prop:=
 match p with
 |.dt ps=>match d with|.dt ds=>wQ ex m R ds ps|_=>False
 |p=>rD ex m R d p
def nk(ex:List Nat)(m:Nat)(R:Rows):List Nat->List Row->Prop
 |[],[]=>True
 |r ::rs,⟨box,ty,sz,es⟩::ps=>(match R.getD r none with
  |some ⟨AL,j6,kJ,jh⟩=>cv (Bool.xor (!box) AL&&bT ty j6&&bT sz kJ) (match box with
   |false=>ak.Eq jh es
   |true=>match jh,es with|.gen [e'],.gen [e]=>Fv ex m R e' e|_,_=>False)
  |none=>cv (!box&&bJ 0 sz) es.Nil)/\nk ex m R rs ps
 |_,_=>False
def Ih(R:Rows)(p d:D):List (Nat×Nat):=
 match p with
 |.all i=>match d with|.all r=>[(i,r)]|_=>[]
 |_=>[]
def Ii(R:Rows):List D->List D->List (Nat×Nat)
 |p::ps,d::ds=>Ih R p d++Ii R ps ds
 |_,_=>[]
def JH(R:Rows)(p d:D):List (Nat×Nat):=
 match p with
 |.agg ps=>match d with|.agg ds=>Ii R ps ds|_=>[]
 |p=>Ih R p d
def newAt(n0:Nat):List (Nat×Nat)->Nat->Nat
 |[],i=>n0+i
 |(j,r)::l,i=>match bT j i with|true=>r|false=>newAt n0 l i
def news(n0:Nat)(l:List (Nat×Nat)):Nat->Nat->List Nat
 |_,0=>[]
 |i,n+1=>newAt n0 l i::news n0 l (i+1) n
def Al:List Nat->List Nat->Bool
 |[],[]=>true
 |x::l,y::m=>bT x y&&Al l m
 |_,_=>false
def AH(M:Nat)(ex:List Nat):Bool:=(Al (ex.take M) (dD M)&&(ex.drop M).all λr=>gQ M r)&&EN (ex.drop M)
def AN(m:Nat)(res:D)(rows:List Row)(d:D)(R:Rows):Prop:=
 ∃ex,AH m ex=true/\AG ex m R d res/\nk ex m R ex rows
def Gk:List D->Nat->List (Nat×D)
 |[],_=>[]
 |d::ds,i=>(i,d)::Gk ds (i+1)
def nD(T:iM)(G:List bf)(L:Code->St->(Ex->St->Prop)->Prop)(fn:Func)(args:List D)(rows:List Row)(Q:D->Rows->Prop):Prop:=
 match fn.body with
 |some c=>px T G fn.ntmps rows.length L c ⟨Gk args 0,rows.map some⟩ λe st=>match e with
  |.exit _=>False
  |_=>Gl T st.rows st.env fn.results.toList λds=>match ds with|[d]=>Q d st.rows|ds=>Q (.dt ds) st.rows
 |none=>False
def oP:List Nat->List D->List (Nat×D)
 |t::ts,d::ds=>(t,d)::oP ts ds
 |_,_=>[]
def Bi:List iJ->List Nat
 |[]=>[]
 |.fn f _::l=>f::Bi l
 |_::l=>Bi l
def Bj:D->List Nat|.gq f cs=>f::Bi cs|_=>[]
def rP:List D->List Nat
 |[]=>[]
 |d::l=>Bj d++rP l
def Gb:D->List Nat|.agg cs=>rP cs|d=>Bj d
def pN:List D->List Nat
 |[]=>[]
 |d::l=>Gb d++pN l
def Dk:D->List Nat|.dt ds=>pN ds|d=>Gb d
def lr:List Row->List Nat
 |[]=>[]
 |⟨true,_,_,.gen [e]⟩::l=>rP e++lr l
 |_::l=>lr l
def GI:Rows->List Nat
 |[]=>[]
 |some r::l=>lr [r]++GI l
 |none::l=>GI l
def sQ(l:List Nat):Bool:=l.all λf=>bJ f YB
def AJ:List (Nat×D)->List Nat
 |[]=>[]
 |(_,d)::l=>Dk d++AJ l
def Kh (T:iM)(G:List bf)(L:Code->St->(Ex->St->Prop)->Prop)(fn:Func)(args:List D)(rows:List Row)(Q:D->Rows->Prop)(M:Nat):Prop:=
 match fn.body with
 |some c =>match gQ YB fn.nfree with
  |true =>match bT fn.nfree YB with
   |true=>px T G fn.ntmps M L c ⟨oP fn.params.toList args,rows.map some⟩ λe st=>match e with
    |.normal=>Q (.bool true) st.rows
    |_=>False
   |false=>match c with
    |.seq a b=>px T G fn.ntmps M L a ⟨oP fn.params.toList args,rows.map some⟩ λe st=>match e with
     |.normal=>cv (sQ (AJ st.env++GI st.rows)) (px T G fn.ntmps M L b st λe st=>match e with
      |.normal=>Q (.bool true) st.rows
      |_=>False)
     |_=>False
    |_=>False
  |false=>px T G fn.ntmps M L c ⟨Gk args 0,rows.map some⟩ λe st=>match e with
  |.exit _=>False
  |_=>Gl T st.rows st.env fn.results.toList λds=>match ds with|[d]=>Q d st.rows|ds=>Q (.dt ds) st.rows
 |none=>False
